/- FnIns's plain law: an instruction drawn comes back from its bytes, seven of them make none, and bytes that are taken are those of what they tell; conditions: the bounds of the bytes that come in -/
import Derived.Test.YtcjdgimiobhhnaaQFnInsx11
import Derived.Test.YtcjdgimiobhhnaaPlGen
import Derived.Test.YtcjdgimiobhhnaaPlIns
import Derived.Laws.BitsAllLaws
import Derived.Laws.Bits64
namespace Go.Proofs.Ytcjdgimiobhhnaa.Pure
open Go.RowKit Go.Proofs.Ytcjdgimiobhhnaa.QFnIns Go.Proofs.YtcjdgimiobhhnaaW.PrintWords Go.Proofs.YtcjdgimiobhhnaaW.PrintLast Go.Proofs.Ytcjdgimiobhhnaa.PlGen Go.Proofs.Ytcjdgimiobhhnaa.PlIns
set_option linter.unusedSimpArgs false
set_option linter.unusedVariables false
set_option linter.unusedSectionVars false
set_option maxHeartbeats 4000000

theorem impl_reg_at (v : Int) : impl_reg.f v = some (rB v) := by
  unfold impl_reg.f rB
  by_cases h : v ≥ 0
  · rw [if_pos h]
    congr 1
    rw [Bool.eq_iff_iff]
    simp only [decide_eq_true_eq]
    omega
  · rw [if_neg h, decide_eq_false (by omega)]
theorem impl_pred_at (v : Int) : impl_pred.f v = some (pB v) := by
  unfold impl_pred.f pB
  by_cases h : v ≥ 1
  · rw [if_pos h]
    congr 1
    rw [Bool.eq_iff_iff]
    simp only [decide_eq_true_eq]
    omega
  · rw [if_neg h, decide_eq_false (by omega)]
theorem impl_Fits_at (v : Int) : impl_Fits.f v = some (fB v) := by
  unfold impl_Fits.f fB
  by_cases h : v ≥ -2147483648
  · rw [if_pos h]
    congr 1
    rw [Bool.eq_iff_iff]
    simp only [decide_eq_true_eq]
    omega
  · rw [if_neg h, decide_eq_false (by omega)]
theorem impl_bytesCount_at (v : Int) : impl_bytesCount.f v = some (nB v) := by
  unfold impl_bytesCount.f nB
  by_cases h1 : v = 1
  · rw [if_pos h1, decide_eq_true (by omega)]
  by_cases h2 : v = 2
  · rw [if_neg h1, if_pos h2, decide_eq_true (by omega)]
  by_cases h4 : v = 4
  · rw [if_neg h1, if_neg h2, if_pos h4, decide_eq_true (by omega)]
  rw [if_neg h1, if_neg h2, if_neg h4]
  congr 1
  rw [Bool.eq_iff_iff]
  simp only [beq_iff_eq, decide_eq_true_eq]
  omega
theorem impl_step (k : Nat) (u : ByteArray) (L : List Int) (i : Nat) (hu : u.size = 4) (hL : L.length = 4) (hi : i < 4) :
    impl_InsFault.l0 (k + 1) u L 4 (i : Int) = if okB (bt u (i : Int)) (rd L (i : Int)) = true then impl_InsFault.l0 k u L 4 ((i + 1 : Nat) : Int) else some true := by
  simp only [impl_InsFault.l0]
  rw [if_pos (by omega), if_pos (by omega), if_pos (by omega), if_pos (by omega), impl_reg_at, impl_pred_at, impl_bytesCount_at]
  have hw : wrap64 ((i : Int) + 1) = ((i + 1 : Nat) : Int) := by
    unfold wrap64
    omega
  rw [hw]
  simp only [Option.bind_some]
  unfold okB
  generalize impl_InsFault.l0 k u L 4 ((i + 1 : Nat) : Int) = z
  generalize bt u (i : Int) = ch
  generalize rd L (i : Int) = v
  by_cases c1 : ch = 114
  · simp only [if_pos c1]
  by_cases c2 : ch = 112
  · simp only [if_neg c1, if_pos c2]
  by_cases c3 : ch = 110
  · simp only [if_neg c1, if_neg c2, if_pos c3]
  by_cases c4 : ch = 119
  · simp only [if_neg c1, if_neg c2, if_neg c3, if_pos c4]
    unfold wdB
    simp only [decide_eq_true_eq]
    by_cases w1 : v = 1
    · rw [if_pos w1, if_pos (Or.inl w1)]
    by_cases w8 : v = 8
    · rw [if_neg w1, if_pos w8, if_pos (Or.inr (Or.inl w8))]
    by_cases w16 : v = 16
    · rw [if_neg w1, if_neg w8, if_pos w16, if_pos (Or.inr (Or.inr (Or.inl w16)))]
    by_cases w32 : v = 32
    · rw [if_neg w1, if_neg w8, if_neg w16, if_pos w32, if_pos (Or.inr (Or.inr (Or.inr w32)))]
    rw [if_neg w1, if_neg w8, if_neg w16, if_neg w32, if_neg (by omega)]
  by_cases c5 : ch = 45
  · simp only [if_neg c1, if_neg c2, if_neg c3, if_neg c4, if_pos c5]
    unfold zB
    simp only [decide_eq_true_eq]
  · simp only [if_neg c1, if_neg c2, if_neg c3, if_neg c4, if_neg c5, if_true]
theorem impl_loop (k : Nat) (u : ByteArray) (a b c m : Int) (hu : u.size = 4) :
    impl_InsFault.l0 (k + 5) u [a, b, c, m] 4 0 = some (!(okB (bt u 0) a && (okB (bt u 1) b && (okB (bt u 2) c && okB (bt u 3) m)))) := by
  have s0 := impl_step (k + 4) u [a, b, c, m] 0 hu rfl (by omega)
  have s1 := impl_step (k + 3) u [a, b, c, m] 1 hu rfl (by omega)
  have s2 := impl_step (k + 2) u [a, b, c, m] 2 hu rfl (by omega)
  have s3 := impl_step (k + 1) u [a, b, c, m] 3 hu rfl (by omega)
  have s4 : impl_InsFault.l0 (k + 1) u [a, b, c, m] 4 ((4 : Nat) : Int) = some false := by
    simp only [impl_InsFault.l0]
    rw [if_neg (by omega)]
  have r0 : rd [a, b, c, m] ((0 : Nat) : Int) = a := rfl
  have r1 : rd [a, b, c, m] ((1 : Nat) : Int) = b := rfl
  have r2 : rd [a, b, c, m] ((2 : Nat) : Int) = c := rfl
  have r3 : rd [a, b, c, m] ((3 : Nat) : Int) = m := rfl
  rw [r0] at s0
  rw [r1] at s1
  rw [r2] at s2
  rw [r3] at s3
  show impl_InsFault.l0 (k + 4 + 1) u [a, b, c, m] 4 ((0 : Nat) : Int) = _
  rw [s0, show (0 + 1 : Nat) = 1 from rfl, s1, show (1 + 1 : Nat) = 2 from rfl, s2, show (2 + 1 : Nat) = 3 from rfl, s3, show (3 + 1 : Nat) = 4 from rfl, s4]
  show (if okB (bt u 0) a = true then (if okB (bt u 1) b = true then (if okB (bt u 2) c = true then (if okB (bt u 3) m = true then some false else some true) else some true) else some true) else some true) = _
  cases okB (bt u 0) a <;> cases okB (bt u 1) b <;> cases okB (bt u 2) c <;> cases okB (bt u 3) m <;> rfl
theorem impl_uses_at (op : Int) : ∃ u : ByteArray, impl_uses.f 9 op = some u ∧ ((useL op = [] ∧ u = ⟨#[]⟩) ∨ (u.size = 4 ∧ useL op = [bt u 0, bt u 1, bt u 2, bt u 3])) := by
  rcases op_cases op with h | h | rfl | rfl | rfl | rfl | rfl | rfl | rfl | rfl | rfl | rfl | rfl | rfl | rfl | rfl | rfl | rfl | rfl | rfl | h
  · refine ⟨⟨#[114, 114, 114, 45]⟩, ?_, Or.inr ⟨rfl, ?_⟩⟩
    · unfold impl_uses.f
      rw [if_pos (by omega), decide_eq_true (by omega)]
      rfl
    · unfold useL
      rw [if_pos h]
      decide +kernel
  · refine ⟨⟨#[114, 114, 45, 105]⟩, ?_, Or.inr ⟨rfl, ?_⟩⟩
    · unfold impl_uses.f
      rw [if_pos (by omega), decide_eq_false (by omega)]
      simp only [impl_uses.j0, Bool.false_eq_true, if_false]
      rw [if_pos (by omega), if_pos (by omega)]
    · unfold useL
      rw [if_neg (by omega), if_pos h]
      decide +kernel
  iterate 18
    refine ⟨_, rfl, Or.inr ⟨rfl, ?_⟩⟩
    decide +kernel
  refine ⟨⟨#[]⟩, ?_, Or.inl ⟨?_, rfl⟩⟩
  · unfold impl_uses.f
    have f : ∀ b, (b = true → False) → impl_uses.j0 9 op b = some ⟨#[]⟩ := by
      intro b hb
      have hb' : b = false := by simpa using hb
      subst hb'
      have e : ∀ n : Int, n = 16 ∨ n = 17 ∨ n = 18 ∨ n = 30 ∨ n = 20 ∨ n = 21 ∨ n = 23 ∨ n = 26 ∨ n = 24 ∨ n = 25 ∨ n = 27 ∨ n = 29 → (op == n) = false := by
        intro n hn
        rw [beq_eq_false_iff_ne]
        omega
      have j7 : ∀ k, impl_uses.j7 (k + 1) op false = some ⟨#[]⟩ := fun k => by
        simp only [impl_uses.j7, Bool.false_eq_true, if_false]
        rw [if_neg (by omega)]
      have j6 : ∀ k, impl_uses.j6 (k + 2) op false = some ⟨#[]⟩ := fun k => by
        simp only [impl_uses.j6, Bool.false_eq_true, if_false]
        rw [if_neg (by omega), e 29 (by omega), j7]
      have j5 : ∀ k, impl_uses.j5 (k + 3) op false = some ⟨#[]⟩ := fun k => by
        simp only [impl_uses.j5, Bool.false_eq_true, if_false]
        rw [if_neg (by omega), e 25 (by omega), j6]
      have j4 : ∀ k, impl_uses.j4 (k + 4) op false = some ⟨#[]⟩ := fun k => by
        simp only [impl_uses.j4, Bool.false_eq_true, if_false]
        rw [if_neg (by omega), if_neg (by omega), e 26 (by omega), j5]
      have j3 : ∀ k, impl_uses.j3 (k + 5) op false = some ⟨#[]⟩ := fun k => by
        simp only [impl_uses.j3, Bool.false_eq_true, if_false]
        rw [if_neg (by omega), if_neg (by omega), e 21 (by omega), j4]
      have j2 : ∀ k, impl_uses.j2 (k + 6) op false = some ⟨#[]⟩ := fun k => by
        simp only [impl_uses.j2, Bool.false_eq_true, if_false]
        rw [if_neg (by omega), e 30 (by omega), j3]
      have j1 : ∀ k, impl_uses.j1 (k + 7) op = some ⟨#[]⟩ := fun k => by
        simp only [impl_uses.j1]
        rw [if_neg (by omega), if_neg (by omega), if_neg (by omega), if_neg (by omega), e 17 (by omega), j2]
      simp only [impl_uses.j0, Bool.false_eq_true, if_false]
      rw [show (8 : Nat) = 1 + 7 from rfl, j1]
      split
      · rw [if_neg (by omega)]
      · rfl
    by_cases h1 : op ≥ 1
    · rw [if_pos h1, decide_eq_false (by omega)]
      exact f false (by simp)
    · rw [if_neg h1]
      exact f false (by simp)
  · unfold useL
    repeat rw [if_neg (by omega)]
theorem impl_ins_at (op a b c m : Int) : impl_InsFault.f 9 op a b c m = some (!goodI op a b c m) := by
  obtain ⟨u, hu, h⟩ := impl_uses_at op
  unfold impl_InsFault.f
  rw [hu]
  simp only [Option.bind_some]
  have jt : impl_InsFault.j0 9 u true op a b c m = some true := by simp only [impl_InsFault.j0, if_true]
  rcases h with ⟨hz, rfl⟩ | ⟨hs, hl⟩
  · rw [if_pos (by decide +kernel), jt]
    unfold goodI
    rw [hz]
    simp [goodL]
  · have hne : ¬ u.toList = [] := by
      intro e
      have : u.size = 0 := by
        rw [ByteArray.toList_eq] at e
        have := congrArg List.length e
        simpa using this
      omega
    rw [if_neg hne, impl_Fits_at]
    simp only [Option.bind_some]
    unfold goodI
    rw [hl]
    cases fB m with
    | false =>
      simp only [Bool.not_false, Bool.false_and]
      exact jt
    | true =>
      simp only [Bool.not_true, Bool.true_and, goodL, impl_InsFault.j0, Bool.false_eq_true, if_false, Option.bind_some]
      exact impl_loop 3 u a b c m hs

/-- The bytes of an instruction. -/
def encL (op a b c m : Int) : List Int := [op % 256, a % 256, b % 256, c % 256, m % 4294967296 % 256, m % 4294967296 / 256 % 256, m % 4294967296 / 65536 % 256, m % 4294967296 / 16777216]
def encR (op a b c m : Int) : List Int := if goodI op a b c m = true then encL op a b c m else []
theorem impl_ins_ev (op a b c m : Int) : Ev (fun k => impl_InsFault.f k op a b c m) (!goodI op a b c m) := Ev.of (fun k => impl_InsFault.mono op a b c m k) (impl_ins_at op a b c m)
theorem sh_at (x : Int) (n : Nat) (hn : n ≤ 64) : shr .u64 x (n : Int) = x / ((2 ^ n : Nat) : Int) := by
  unfold shr
  rw [Nat.min_eq_left (by simp [IntKind.bits]; omega)]
  simp
theorem spec_enc_ev (op a b c m : Int) (ho : -9223372036854775808 ≤ op ∧ op ≤ 9223372036854775807) (hm : -9223372036854775808 ≤ m ∧ m ≤ 9223372036854775807) : Ev (fun k => spec_EncodeIns.f k op a b c m) (encR op a b c m) := by
  unfold spec_EncodeIns.f encR
  refine Ev.bind (spec_ins_ev op a b c m ho) ?_
  cases goodI op a b c m with
  | false =>
    simp only [Bool.not_false, if_true, Bool.false_eq_true, if_false]
    exact Ev.now _
  | true =>
    simp only [Bool.not_true, Bool.false_eq_true, if_false, if_true]
    have w0 : IntKind.u64.wrap (wrap64 (8 * 0)) = ((0 : Nat) : Int) := by decide +kernel
    have w1 : IntKind.u64.wrap (wrap64 (8 * 1)) = ((8 : Nat) : Int) := by decide +kernel
    have w2 : IntKind.u64.wrap (wrap64 (8 * 2)) = ((16 : Nat) : Int) := by decide +kernel
    have w3 : IntKind.u64.wrap (wrap64 (8 * 3)) = ((24 : Nat) : Int) := by decide +kernel
    have n1 : wrap64 (0 + 1) = 1 := by decide +kernel
    have n2 : wrap64 (1 + 1) = 2 := by decide +kernel
    have n3 : wrap64 (2 + 1) = 3 := by decide +kernel
    have n4 : wrap64 (3 + 1) = 4 := by decide +kernel
    have u : IntKind.u64.wrap m = m % 18446744073709551616 := by simp [IntKind.wrap, IntKind.bits, IntKind.signed]
    have st : ∀ (x : List Int) (i j : Int) (s : Nat), i < 4 → IntKind.u64.wrap (wrap64 (8 * i)) = (s : Int) → s ≤ 64 → x.length < 9 → wrap64 (i + 1) = j → ∀ r, Ev (fun k => spec_EncodeIns.l0 k (x ++ [m % 18446744073709551616 / ((2 ^ s : Nat) : Int) % 256]) j op a b c m) r → Ev (fun k => spec_EncodeIns.l0 k x i op a b c m) r := by
      intro x i j s hi hs h64 hx hj r h
      refine Ev.step (fun k => ?_) h
      simp only [spec_EncodeIns.l0, hs, hj, u]
      rw [if_pos hi, if_pos (by omega), if_pos (by omega), sh_at _ s h64]
    refine st _ 0 1 0 (by omega) w0 (by omega) (by simp) n1 _ (st _ 1 2 8 (by omega) w1 (by omega) (by simp) n2 _ (st _ 2 3 16 (by omega) w2 (by omega) (by simp) n3 _ (st _ 3 4 24 (by omega) w3 (by omega) (by simp) n4 _ ?_)))
    refine Ev.step (f := fun _ => some (encL op a b c m)) (fun k => ?_) (Ev.now _)
    simp only [spec_EncodeIns.l0]
    rw [if_neg (by omega)]
    simp only [encL, List.cons_append, List.nil_append, Nat.reducePow, Option.some.injEq, List.cons.injEq, true_and, and_true]
    refine ⟨?_, ?_, ?_, ?_⟩ <;> omega
theorem impl_enc_ev (op a b c m : Int) : Ev (fun k => impl_EncodeIns.f k op a b c m) (encR op a b c m) := by
  unfold impl_EncodeIns.f encR
  refine Ev.bind (impl_ins_ev op a b c m) ?_
  cases goodI op a b c m with
  | false =>
    simp only [Bool.not_false, if_true, Bool.false_eq_true, if_false]
    exact Ev.now _
  | true =>
    simp only [Bool.not_true, Bool.false_eq_true, if_false, if_true]
    exact Ev.now _
theorem encR_len (op a b c m : Int) : (encR op a b c m).length ≤ 8 := by
  unfold encR encL
  split <;> simp

/-! plain words: masks, high bits, signs -/
theorem pl_u64b {n : Int} (h : (Lit.int .u64 n).wf = true) : 0 ≤ n ∧ n < 18446744073709551616 := by
  simp [Lit.wf, IntKind.min, IntKind.max, IntKind.signed, IntKind.bits] at h
  omega
theorem pl_i64b {n : Int} (h : (Lit.int .i64 n).wf = true) : -9223372036854775808 ≤ n ∧ n ≤ 9223372036854775807 := by
  simp [Lit.wf, IntKind.min, IntKind.max, IntKind.signed, IntKind.bits] at h
  omega
theorem pl_hi (v w : Nat) (hv : v < 2 ^ 64) (hw : w ≤ 64) : v &&& (18446744073709551615 - (2 ^ w - 1)) = v / 2 ^ w * 2 ^ w := by
  have h2 : (2 : Nat) ^ w ≤ 2 ^ 64 := Nat.pow_le_pow_right (by omega) hw
  have h1 : 0 < (2 : Nat) ^ w := Nat.pow_pos (by omega)
  have e : 18446744073709551615 - (2 ^ w - 1) = 2 ^ 64 - ((2 ^ w - 1) + 1) := by omega
  rw [e, ← Nat.shiftRight_eq_div_pow, ← Nat.shiftLeft_eq]
  apply Nat.eq_of_testBit_eq
  intro i
  rw [Nat.testBit_and, Nat.testBit_two_pow_sub_succ (by omega), Nat.testBit_two_pow_sub_one, Nat.testBit_shiftLeft, Nat.testBit_shiftRight]
  by_cases h64 : i < 64
  · by_cases hi : i < w
    · have hn : ¬ w ≤ i := by omega
      simp [h64, hi, hn]
    · have hi' : w ≤ i := by omega
      simp [h64, hi, hi', Nat.add_sub_cancel' hi']
  · have : v.testBit i = false := Nat.testBit_lt_two_pow (Nat.lt_of_lt_of_le hv (Nat.pow_le_pow_right (by omega) (by omega)))
    by_cases hi' : w ≤ i
    · simp [this, Nat.add_sub_cancel' hi']
    · simp [this, hi']
theorem pl_or (v w : Nat) (hv : v < 2 ^ w) (hw : w ≤ 64) : v ||| (2 ^ 64 - 2 ^ w) = v + (2 ^ 64 - 2 ^ w) := by
  have e : (2 : Nat) ^ 64 - 2 ^ w = (2 ^ (64 - w) - 1) <<< w := by
    rw [Nat.shiftLeft_eq, Nat.sub_mul, ← Nat.pow_add, Nat.sub_add_cancel hw, Nat.one_mul]
  rw [e, Nat.or_comm, ← Nat.shiftLeft_add_eq_or_of_lt hv, Nat.add_comm]

def wB (w : Int) : Bool := w == 1 || w == 8 || w == 16 || w == 32 || w == 64
def isB (w v : Int) : Bool := wB w && decide (v < 2 ^ w.toNat)
def sgn (w v : Int) : Int := if v < 2 ^ (w.toNat - 1) then v else v - 2 ^ w.toNat
theorem wB_cases {w : Int} (h : wB w = true) : w = 1 ∨ w = 8 ∨ w = 16 ∨ w = 32 ∨ w = 64 := by
  simpa [wB, or_assoc] using h
theorem wB_not {w : Int} (h : wB w = false) : ¬ w = 1 ∧ ¬ w = 8 ∧ ¬ w = 16 ∧ ¬ w = 32 ∧ ¬ w = 64 := by
  simpa [wB, and_assoc] using h
theorem spec_vw (w : Int) : spec_ValidWidth.f w = some (wB w) := by
  by_cases h1 : w = 1
  · subst h1
    rfl
  by_cases h8 : w = 8
  · subst h8
    rfl
  by_cases h16 : w = 16
  · subst h16
    rfl
  by_cases h32 : w = 32
  · subst h32
    rfl
  have e1 : (w == 1) = false := by simpa using h1
  have e8 : (w == 8) = false := by simpa using h8
  have e16 : (w == 16) = false := by simpa using h16
  have e32 : (w == 32) = false := by simpa using h32
  simp only [spec_ValidWidth.f, if_neg h1, if_neg h8, if_neg h16, if_neg h32, wB, e1, e8, e16, e32, Bool.false_or]
theorem spec_mask_at {w : Int} (h : wB w = true) : spec_l1Mask.f w = some (2 ^ w.toNat - 1) := by
  rcases wB_cases h with rfl | rfl | rfl | rfl | rfl <;> decide +kernel
theorem spec_cut_at {w v : Int} (h : wB w = true) (h0 : 0 ≤ v) (h1 : v < 18446744073709551616) : spec_Cut.f w v = some (v % 2 ^ w.toNat) := by
  unfold spec_Cut.f
  rw [spec_vw, h, spec_mask_at h]
  obtain ⟨n, rfl⟩ := Int.eq_ofNat_of_zero_le h0
  simp only [Option.bind_some, if_true]
  have hm : ∀ k : Nat, k ≤ 64 → Go.bits .and .u64 (n : Int) (2 ^ k - 1) = (n : Int) % 2 ^ k := by
    intro k hk
    have h2 : (2 : Nat) ^ k ≤ 2 ^ 64 := Nat.pow_le_pow_right (by omega) hk
    have hp : 0 < (2 : Nat) ^ k := Nat.pow_pos (by omega)
    have e : ((2 : Int) ^ k - 1) = ((2 ^ k - 1 : Nat) : Int) := by
      rw [Int.natCast_sub hp]
      simp
    rw [e, u64_and_nat n (2 ^ k - 1) (by omega) (by omega), Nat.and_two_pow_sub_one_eq_mod]
    simp
  have hk : w.toNat ≤ 64 := by
    rcases wB_cases h with rfl | rfl | rfl | rfl | rfl <;> decide
  rw [hm w.toNat hk]
theorem spec_cut_no {w v : Int} (h : wB w = false) : spec_Cut.f w v = some 0 := by
  unfold spec_Cut.f
  rw [spec_vw, h]
  rfl
theorem spec_is_at (w v : Int) (h0 : 0 ≤ v) (h1 : v < 18446744073709551616) : spec_l1Is.f w v = some (isB w v) := by
  unfold spec_l1Is.f isB
  rw [spec_vw]
  cases h : wB w with
  | false => rfl
  | true =>
    simp only [Option.bind_some, if_true, Bool.true_and]
    rw [spec_cut_at h h0 h1]
    simp only [Option.bind_some, Option.some.injEq]
    rw [Bool.eq_iff_iff]
    simp only [beq_iff_eq, decide_eq_true_eq]
    have hp : (0 : Int) < 2 ^ w.toNat := Int.pow_pos (by omega)
    constructor
    · intro e
      rw [e]
      exact Int.emod_lt_of_pos v hp
    · intro e
      exact (Int.emod_eq_of_lt h0 e).symm
theorem spec_signed_at (w v : Int) (h0 : 0 ≤ v) (h1 : v < 18446744073709551616) : spec_Signed.f w v = some (if isB w v = true then sgn w v else 0) := by
  unfold spec_Signed.f
  rw [spec_is_at w v h0 h1]
  cases hi : isB w v with
  | false => rfl
  | true =>
    simp only [Option.bind_some, if_true]
    have hw : wB w = true := by
      unfold isB at hi
      exact (Bool.and_eq_true _ _ ▸ hi).1
    have hv : v < 2 ^ w.toNat := by
      unfold isB at hi
      exact of_decide_eq_true (Bool.and_eq_true _ _ ▸ hi).2
    have htop : spec_l1Top.f w v = some (decide (2 ^ (w.toNat - 1) ≤ v)) := by
      unfold spec_l1Top.f
      rcases wB_cases hw with rfl | rfl | rfl | rfl | rfl
      · rw [if_pos (by decide +kernel), show IntKind.u64.wrap (wrap64 (1 - 1)) = 0 from by decide +kernel]
        have hv' : v < 2 := hv
        show some (v / 1 == 1) = some (decide (1 ≤ v))
        congr 1
        rw [Bool.eq_iff_iff]
        simp only [beq_iff_eq, decide_eq_true_eq]
        omega
      · rw [if_pos (by decide +kernel), show IntKind.u64.wrap (wrap64 (8 - 1)) = 7 from by decide +kernel]
        have hv' : v < 256 := hv
        show some (v / 128 == 1) = some (decide (128 ≤ v))
        congr 1
        rw [Bool.eq_iff_iff]
        simp only [beq_iff_eq, decide_eq_true_eq]
        omega
      · rw [if_pos (by decide +kernel), show IntKind.u64.wrap (wrap64 (16 - 1)) = 15 from by decide +kernel]
        have hv' : v < 65536 := hv
        show some (v / 32768 == 1) = some (decide (32768 ≤ v))
        congr 1
        rw [Bool.eq_iff_iff]
        simp only [beq_iff_eq, decide_eq_true_eq]
        omega
      · rw [if_pos (by decide +kernel), show IntKind.u64.wrap (wrap64 (32 - 1)) = 31 from by decide +kernel]
        have hv' : v < 4294967296 := hv
        show some (v / 2147483648 == 1) = some (decide (2147483648 ≤ v))
        congr 1
        rw [Bool.eq_iff_iff]
        simp only [beq_iff_eq, decide_eq_true_eq]
        omega
      · rw [if_pos (by decide +kernel), show IntKind.u64.wrap (wrap64 (64 - 1)) = 63 from by decide +kernel]
        have hv' : v < 18446744073709551616 := hv
        show some (v / 9223372036854775808 == 1) = some (decide (9223372036854775808 ≤ v))
        congr 1
        rw [Bool.eq_iff_iff]
        simp only [beq_iff_eq, decide_eq_true_eq]
        omega
    rw [htop, spec_mask_at hw]
    obtain ⟨n, rfl⟩ := Int.eq_ofNat_of_zero_le h0
    unfold sgn
    simp only [Option.bind_some, decide_eq_true_eq]
    by_cases ht : (2 : Int) ^ (w.toNat - 1) ≤ (n : Int)
    · rw [if_pos ht, if_neg (by omega)]
      congr 1
      rcases wB_cases hw with rfl | rfl | rfl | rfl | rfl
      · have hv' : (n : Int) < 2 := hv
        rw [show Go.bits .xor .u64 18446744073709551615 (2 ^ ((1 : Int)).toNat - 1) = ((18446744073709551614 : Nat) : Int) from by decide +kernel, u64_or_nat n 18446744073709551614 (by omega) (by omega), show (18446744073709551614 : Nat) = 2 ^ 64 - 2 ^ 1 from by decide +kernel, pl_or n 1 (by show n < 2; omega) (by omega)]
        show wrap64 (((n + 18446744073709551614 : Nat)) : Int) = (n : Int) - 2
        have ht' : (1 : Int) ≤ (n : Int) := ht
        unfold wrap64
        omega
      · have hv' : (n : Int) < 256 := hv
        rw [show Go.bits .xor .u64 18446744073709551615 (2 ^ ((8 : Int)).toNat - 1) = ((18446744073709551360 : Nat) : Int) from by decide +kernel, u64_or_nat n 18446744073709551360 (by omega) (by omega), show (18446744073709551360 : Nat) = 2 ^ 64 - 2 ^ 8 from by decide +kernel, pl_or n 8 (by show n < 256; omega) (by omega)]
        show wrap64 (((n + 18446744073709551360 : Nat)) : Int) = (n : Int) - 256
        have ht' : (128 : Int) ≤ (n : Int) := ht
        unfold wrap64
        omega
      · have hv' : (n : Int) < 65536 := hv
        rw [show Go.bits .xor .u64 18446744073709551615 (2 ^ ((16 : Int)).toNat - 1) = ((18446744073709486080 : Nat) : Int) from by decide +kernel, u64_or_nat n 18446744073709486080 (by omega) (by omega), show (18446744073709486080 : Nat) = 2 ^ 64 - 2 ^ 16 from by decide +kernel, pl_or n 16 (by show n < 65536; omega) (by omega)]
        show wrap64 (((n + 18446744073709486080 : Nat)) : Int) = (n : Int) - 65536
        have ht' : (32768 : Int) ≤ (n : Int) := ht
        unfold wrap64
        omega
      · have hv' : (n : Int) < 4294967296 := hv
        rw [show Go.bits .xor .u64 18446744073709551615 (2 ^ ((32 : Int)).toNat - 1) = ((18446744069414584320 : Nat) : Int) from by decide +kernel, u64_or_nat n 18446744069414584320 (by omega) (by omega), show (18446744069414584320 : Nat) = 2 ^ 64 - 2 ^ 32 from by decide +kernel, pl_or n 32 (by show n < 4294967296; omega) (by omega)]
        show wrap64 (((n + 18446744069414584320 : Nat)) : Int) = (n : Int) - 4294967296
        have ht' : (2147483648 : Int) ≤ (n : Int) := ht
        unfold wrap64
        omega
      · have hv' : (n : Int) < 18446744073709551616 := hv
        rw [show Go.bits .xor .u64 18446744073709551615 (2 ^ ((64 : Int)).toNat - 1) = ((0 : Nat) : Int) from by decide +kernel, u64_or_nat n 0 (by omega) (by omega), show (0 : Nat) = 2 ^ 64 - 2 ^ 64 from by decide +kernel, pl_or n 64 (by show n < 18446744073709551616; omega) (by omega)]
        show wrap64 (((n + 0 : Nat)) : Int) = (n : Int) - 18446744073709551616
        have ht' : (9223372036854775808 : Int) ≤ (n : Int) := ht
        unfold wrap64
        omega
    · rw [if_neg ht, if_pos (by omega)]
      congr 1
      rcases wB_cases hw with rfl | rfl | rfl | rfl | rfl
      · have ht' : ¬ (1 : Int) ≤ (n : Int) := ht
        unfold wrap64
        omega
      · have ht' : ¬ (128 : Int) ≤ (n : Int) := ht
        unfold wrap64
        omega
      · have ht' : ¬ (32768 : Int) ≤ (n : Int) := ht
        unfold wrap64
        omega
      · have ht' : ¬ (2147483648 : Int) ≤ (n : Int) := ht
        unfold wrap64
        omega
      · have ht' : ¬ (9223372036854775808 : Int) ≤ (n : Int) := ht
        unfold wrap64
        omega

/-! eight bytes make an instruction -/
def dW (b4 b5 b6 b7 : Int) : Int := b4 + b5 * 256 + b6 * 65536 + b7 * 16777216
def dS (b4 b5 b6 b7 : Int) : Int := if dW b4 b5 b6 b7 < 2147483648 then dW b4 b5 b6 b7 else dW b4 b5 b6 b7 - 4294967296
theorem join64 {x b : Int} (hx : 0 ≤ x ∧ x < 4294967296) (hb : 0 ≤ b ∧ b < 256) : Go.bits .or .u64 (IntKind.u64.wrap (x * 256)) (IntKind.u64.wrap b) = x * 256 + b := by
  rw [IntKind.wrap_u64, IntKind.wrap_u64, Int.emod_eq_of_lt (by omega) (by omega), Int.emod_eq_of_lt (by omega) (by omega)]
  obtain ⟨n, rfl⟩ := Int.eq_ofNat_of_zero_le hx.1
  obtain ⟨m, rfl⟩ := Int.eq_ofNat_of_zero_le hb.1
  rw [show (n : Int) * 256 = ((n * 256 : Nat) : Int) by omega, u64_or_nat _ _ (by omega) (by omega), nat_join 8 (n * 256) m (by omega) (by omega)]
  omega
theorem join32 {x b : Int} (s : Nat) (hs : s ≤ 24) (hx : 0 ≤ x ∧ x < ((2 ^ s : Nat) : Int)) (hb : 0 ≤ b ∧ b < 256) : Go.bits .or .u32 x (((b % 4294967296) * ((2 ^ s : Nat) : Int)) % 4294967296) = x + b * ((2 ^ s : Nat) : Int) := by
  have p : (2 : Nat) ^ s ≤ 2 ^ 24 := Nat.pow_le_pow_right (by omega) hs
  obtain ⟨n, rfl⟩ := Int.eq_ofNat_of_zero_le hx.1
  obtain ⟨m, rfl⟩ := Int.eq_ofNat_of_zero_le hb.1
  have hm : m * 2 ^ s ≤ 255 * 2 ^ s := Nat.mul_le_mul_right _ (by omega)
  have e1 : ((m : Int) % 4294967296) = (m : Int) := Int.emod_eq_of_lt (by omega) (by omega)
  have e2 : (m : Int) * ((2 ^ s : Nat) : Int) = ((m * 2 ^ s : Nat) : Int) := (Int.natCast_mul _ _).symm
  have e3 : ((m * 2 ^ s : Nat) : Int) % 4294967296 = ((m * 2 ^ s : Nat) : Int) := Int.emod_eq_of_lt (by omega) (by omega)
  rw [e1, e2, e3, u32_or_nat _ _ (by omega) (by omega), Nat.or_comm, nat_join s (m * 2 ^ s) n (by simp) (by omega)]
  omega
section
variable (b0 b1 b2 b3 b4 b5 b6 b7 : Int) (h0 : 0 ≤ b0 ∧ b0 < 256) (h1 : 0 ≤ b1 ∧ b1 < 256) (h2 : 0 ≤ b2 ∧ b2 < 256) (h3 : 0 ≤ b3 ∧ b3 < 256) (h4 : 0 ≤ b4 ∧ b4 < 256) (h5 : 0 ≤ b5 ∧ b5 < 256) (h6 : 0 ≤ b6 ∧ b6 < 256) (h7 : 0 ≤ b7 ∧ b7 < 256)
include h0 h1 h2 h3 h4 h5 h6 h7
theorem spec_decode_ev : Ev (fun k => spec_l16Decode.f k [b0, b1, b2, b3, b4, b5, b6, b7]) (b0, b1, b2, b3, dS b4 b5 b6 b7) := by
  unfold spec_l16Decode.f
  have e7 := join64 (x := 0) (b := b7) (by omega) h7
  have e6 := join64 (x := 0 * 256 + b7) (b := b6) (by omega) h6
  have e5 := join64 (x := (0 * 256 + b7) * 256 + b6) (b := b5) (by omega) h5
  have e4 := join64 (x := ((0 * 256 + b7) * 256 + b6) * 256 + b5) (b := b4) (by omega) h4
  have st : ∀ (x i j b : Int), i ≥ 4 → i < 8 → rd [b0, b1, b2, b3, b4, b5, b6, b7] i = b → wrap64 (i - 1) = j → ∀ r, Ev (fun k => spec_l16Decode.l0 k [b0, b1, b2, b3, b4, b5, b6, b7] (Go.bits .or .u64 (IntKind.u64.wrap (x * 256)) (IntKind.u64.wrap b)) j) r → Ev (fun k => spec_l16Decode.l0 k [b0, b1, b2, b3, b4, b5, b6, b7] x i) r := by
    intro x i j b hi hi8 hb hj r h
    refine Ev.step (fun k => ?_) h
    simp only [spec_l16Decode.l0, hb, hj]
    rw [if_pos hi, if_pos (by omega), if_pos (by simp only [List.length_cons, List.length_nil]; omega)]
  refine st 0 7 6 b7 (by omega) (by omega) rfl (by decide +kernel) _ ?_
  rw [e7]
  refine st _ 6 5 b6 (by omega) (by omega) rfl (by decide +kernel) _ ?_
  rw [e6]
  refine st _ 5 4 b5 (by omega) (by omega) rfl (by decide +kernel) _ ?_
  rw [e5]
  refine st _ 4 3 b4 (by omega) (by omega) rfl (by decide +kernel) _ ?_
  rw [e4]
  have hw : (((0 * 256 + b7) * 256 + b6) * 256 + b5) * 256 + b4 = dW b4 b5 b6 b7 := by
    unfold dW
    omega
  rw [hw]
  have hd : 0 ≤ dW b4 b5 b6 b7 ∧ dW b4 b5 b6 b7 < 4294967296 := by
    unfold dW
    omega
  have hs : spec_Signed.f 32 (dW b4 b5 b6 b7) = some (dS b4 b5 b6 b7) := by
    rw [spec_signed_at 32 _ hd.1 (by omega)]
    have : isB 32 (dW b4 b5 b6 b7) = true := by
      unfold isB wB
      have : decide (dW b4 b5 b6 b7 < 2 ^ (32 : Int).toNat) = true := decide_eq_true (by
        rw [show (2 : Int) ^ (32 : Int).toNat = 4294967296 by decide]
        exact hd.2)
      rw [this]
      rfl
    rw [if_pos this]
    unfold sgn dS
    rw [show (2 : Int) ^ ((32 : Int).toNat - 1) = 2147483648 by decide, show (2 : Int) ^ (32 : Int).toNat = 4294967296 by decide]
  refine Ev.step (f := fun _ => some (b0, b1, b2, b3, dS b4 b5 b6 b7)) (fun k => ?_) (Ev.now _)
  simp only [spec_l16Decode.l0, hs]
  rw [if_neg (by omega), if_pos (by simp only [List.length_cons, List.length_nil]; omega), if_pos (by simp only [List.length_cons, List.length_nil]; omega), if_pos (by simp only [List.length_cons, List.length_nil]; omega), if_pos (by simp only [List.length_cons, List.length_nil]; omega)]
  simp only [Option.bind_some]
  rw [show rd [b0, b1, b2, b3, b4, b5, b6, b7] 0 = b0 from rfl, show rd [b0, b1, b2, b3, b4, b5, b6, b7] 1 = b1 from rfl, show rd [b0, b1, b2, b3, b4, b5, b6, b7] 2 = b2 from rfl, show rd [b0, b1, b2, b3, b4, b5, b6, b7] 3 = b3 from rfl, wrap64_id (x := b0) (by omega) (by omega), wrap64_id (x := b1) (by omega) (by omega), wrap64_id (x := b2) (by omega) (by omega), wrap64_id (x := b3) (by omega) (by omega)]
theorem impl_word : wrap64 (wrap32 (Go.bits .or .u32 (Go.bits .or .u32 (Go.bits .or .u32 (b4 % 4294967296) (((b5 % 4294967296) * 256) % 4294967296)) (((b6 % 4294967296) * 65536) % 4294967296)) (((b7 % 4294967296) * 16777216) % 4294967296))) = dS b4 b5 b6 b7 := by
  have e5 := join32 (x := b4) (b := b5) 8 (by omega) (by omega) h5
  have e6 := join32 (x := b4 + b5 * 256) (b := b6) 16 (by omega) (by omega) h6
  have e7 := join32 (x := b4 + b5 * 256 + b6 * 65536) (b := b7) 24 (by omega) (by omega) h7
  simp only [Nat.reducePow] at e5 e6 e7
  have c : ∀ n : Nat, ((n : Nat) : Int) = (n : Int) := fun _ => rfl
  rw [Int.emod_eq_of_lt (a := b4) (by omega) (by omega)]
  rw [show ((256 : Nat) : Int) = 256 from rfl] at e5
  rw [show ((65536 : Nat) : Int) = 65536 from rfl] at e6
  rw [show ((16777216 : Nat) : Int) = 16777216 from rfl] at e7
  rw [e5, e6, e7]
  unfold wrap64 wrap32 dS dW
  split <;> omega
end

def decR (l : List Int) : Bool × Int × Int × Int × Int × Int := match l with
  | [b0, b1, b2, b3, b4, b5, b6, b7] => if goodI b0 b1 b2 b3 (dS b4 b5 b6 b7) = true then (true, b0, b1, b2, b3, dS b4 b5 b6 b7) else (false, 0, 0, 0, 0, 0)
  | _ => (false, 0, 0, 0, 0, 0)
theorem decode_ev (l : List Int) (hB : ∀ y ∈ l, 0 ≤ y ∧ y < 256) : Ev (fun k => spec_DecodeIns.f k l) (decR l) ∧ Ev (fun k => impl_DecodeIns.f k l) (decR l) := by
  by_cases h : (l.length : Int) = 8
  · obtain ⟨b0, b1, b2, b3, b4, b5, b6, b7, rfl⟩ : ∃ b0 b1 b2 b3 b4 b5 b6 b7, l = [b0, b1, b2, b3, b4, b5, b6, b7] := by
      have hl : l.length = 8 := by omega
      match l, hl with
      | [b0, b1, b2, b3, b4, b5, b6, b7], _ => exact ⟨b0, b1, b2, b3, b4, b5, b6, b7, rfl⟩
    have g0 := hB b0 (by simp)
    have g1 := hB b1 (by simp)
    have g2 := hB b2 (by simp)
    have g3 := hB b3 (by simp)
    have g4 := hB b4 (by simp)
    have g5 := hB b5 (by simp)
    have g6 := hB b6 (by simp)
    have g7 := hB b7 (by simp)
    have hd := spec_decode_ev b0 b1 b2 b3 b4 b5 b6 b7 g0 g1 g2 g3 g4 g5 g6 g7
    have hw := impl_word b0 b1 b2 b3 b4 b5 b6 b7 g0 g1 g2 g3 g4 g5 g6 g7
    have si := spec_ins_ev b0 b1 b2 b3 (dS b4 b5 b6 b7) (by omega)
    have ii := impl_ins_ev b0 b1 b2 b3 (dS b4 b5 b6 b7)
    constructor
    · unfold spec_DecodeIns.f decR
      simp only [if_pos h]
      refine Ev.bind hd (Ev.bind si ?_)
      cases goodI b0 b1 b2 b3 (dS b4 b5 b6 b7) with
      | false =>
        simp only [Bool.not_false, if_true, Bool.false_eq_true, if_false]
        exact Ev.now _
      | true =>
        simp only [Bool.not_true, Bool.false_eq_true, if_false, if_true]
        exact Ev.bind hd (Ev.now _)
    · unfold impl_DecodeIns.f decR
      have r0 : rd [b0, b1, b2, b3, b4, b5, b6, b7] 0 = b0 := rfl
      have r1 : rd [b0, b1, b2, b3, b4, b5, b6, b7] 1 = b1 := rfl
      have r2 : rd [b0, b1, b2, b3, b4, b5, b6, b7] 2 = b2 := rfl
      have r3 : rd [b0, b1, b2, b3, b4, b5, b6, b7] 3 = b3 := rfl
      have r4 : rd [b0, b1, b2, b3, b4, b5, b6, b7] 4 = b4 := rfl
      have r5 : rd [b0, b1, b2, b3, b4, b5, b6, b7] 5 = b5 := rfl
      have r6 : rd [b0, b1, b2, b3, b4, b5, b6, b7] 6 = b6 := rfl
      have r7 : rd [b0, b1, b2, b3, b4, b5, b6, b7] 7 = b7 := rfl
      have w0 : wrap64 b0 = b0 := wrap64_id (by omega) (by omega)
      have w1 : wrap64 b1 = b1 := wrap64_id (by omega) (by omega)
      have w2 : wrap64 b2 = b2 := wrap64_id (by omega) (by omega)
      have w3 : wrap64 b3 = b3 := wrap64_id (by omega) (by omega)
      simp only [r0, r1, r2, r3, r4, r5, r6, r7, w0, w1, w2, w3, hw]
      simp only [h, if_true, show (4 : Int) < 8 by decide, show (5 : Int) < 8 by decide, show (6 : Int) < 8 by decide, show (7 : Int) < 8 by decide, show (0 : Int) < 8 by decide, show (1 : Int) < 8 by decide, show (2 : Int) < 8 by decide, show (3 : Int) < 8 by decide]
      refine Ev.bind ii ?_
      cases goodI b0 b1 b2 b3 (dS b4 b5 b6 b7) with
      | false =>
        simp only [Bool.not_false, if_true, Bool.false_eq_true, if_false]
        exact Ev.now _
      | true =>
        simp only [Bool.not_true, Bool.false_eq_true, if_false, if_true]
        exact Ev.now _
  · have hr : decR l = (false, 0, 0, 0, 0, 0) := by
      unfold decR
      split
      · exact absurd rfl h
      · rfl
    rw [hr]
    constructor
    · unfold spec_DecodeIns.f
      simp only [if_neg h]
      exact Ev.now _
    · unfold impl_DecodeIns.f
      simp only [if_neg h]
      exact Ev.now _

/-! what is drawn -/
theorem rd_byteN {l : List Int} (h : ∀ y ∈ l, 0 ≤ y ∧ y < 256) (i : Int) : 0 ≤ rd l i ∧ rd l i < 256 := by
  unfold rd
  rw [List.getD_eq_getElem?_getD]
  by_cases hi : i.toNat < l.length
  · rw [List.getElem?_eq_getElem hi]
    exact h _ (List.getElem_mem hi)
  · rw [List.getElem?_eq_none (by omega)]
    decide
theorem rd_mem {l : List Int} {i : Int} (h : i < (l.length : Int)) (h0 : 0 ≤ i) : rd l i ∈ l := by
  unfold rd
  have hi : i.toNat < l.length := by omega
  rw [List.getD_eq_getElem?_getD, List.getElem?_eq_getElem hi]
  exact List.getElem_mem hi
theorem next_ok (l : List Int) (hB : ∀ y ∈ l, 0 ≤ y ∧ y < 256) (hl : l.length ≤ 1048576) (s : Nat) (s2 n : Int) (hs : s ≤ 100000) (hn : 1 ≤ n ∧ n ≤ 256) : ∃ (r : Int) (s' : Nat), spec_l1Next.f l (s : Int) s2 n = some (r, (s' : Int), s2) ∧ 0 ≤ r ∧ r < n ∧ s' = s + 1 := by
  have e1 : wrap64 ((s : Int) + 1) = ((s + 1 : Nat) : Int) := by rw [wrap64_id (by omega) (by omega)]; omega
  have e2 : wrap64 (((s + 1 : Nat) : Int) - 1) = (s : Int) := by rw [wrap64_id (by omega) (by omega)]; omega
  have md : ∀ x : Int, 0 ≤ x → 0 ≤ Int.tmod x n ∧ Int.tmod x n < n ∧ s + 1 = s + 1 := by
    intro x hx
    rw [Int.tmod_eq_emod_of_nonneg hx]
    exact ⟨Int.emod_nonneg x (by omega), Int.emod_lt_of_pos x (by omega), rfl⟩
  unfold spec_l1Next.f
  rw [if_neg (by omega), e1, e2]
  by_cases h0 : (l.length : Int) = 0
  · rw [if_pos h0, if_neg (by omega), wrap64_id (x := (s : Int) * 7) (by omega) (by omega)]
    exact ⟨_, s + 1, rfl, md _ (by omega)⟩
  rw [if_neg h0]
  have i1 : ∀ q : Nat, 0 ≤ Int.tmod (q : Int) (l.length : Int) ∧ Int.tmod (q : Int) (l.length : Int) < (l.length : Int) := by
    intro q
    rw [Int.tmod_eq_emod_of_nonneg (by omega)]
    exact ⟨Int.emod_nonneg _ h0, Int.emod_lt_of_pos _ (by omega)⟩
  have x1 := rd_byteN hB (Int.tmod (s : Int) (l.length : Int))
  have d1 : 0 ≤ Int.tdiv (s : Int) (l.length : Int) ∧ Int.tdiv (s : Int) (l.length : Int) ≤ 100000 := by
    rw [Int.tdiv_eq_ediv_of_nonneg (by omega)]
    refine ⟨Int.ediv_nonneg (by omega) (by omega), ?_⟩
    have := Int.ediv_le_self (a := (s : Int)) (l.length : Int) (by omega)
    omega
  rw [if_pos (i1 s).1, if_pos (i1 s).2, wrap64_id (x := rd l (Int.tmod (s : Int) (l.length : Int))) (by omega) (by omega), wrap64_id (x := Int.tdiv (s : Int) (l.length : Int)) (by omega) (by omega), wrap64_id (x := Int.tdiv (s : Int) (l.length : Int) * 37) (by omega) (by omega), wrap64_id (x := rd l (Int.tmod (s : Int) (l.length : Int)) + Int.tdiv (s : Int) (l.length : Int) * 37) (by omega) (by omega)]
  by_cases h2 : n > 200
  · have x2 := rd_byteN hB (Int.tmod ((s + 1 : Nat) : Int) (l.length : Int))
    have e3 : wrap64 ((s : Int) + 1) = ((s + 1 : Nat) : Int) := e1
    rw [if_pos h2, e3, if_pos (i1 (s + 1)).1, if_pos (i1 (s + 1)).2, if_neg (by omega)]
    rw [wrap64_id (x := (rd l (Int.tmod (s : Int) (l.length : Int)) + Int.tdiv (s : Int) (l.length : Int) * 37) * 251) (by omega) (by omega), wrap64_id (x := rd l (Int.tmod ((s + 1 : Nat) : Int) (l.length : Int))) (by omega) (by omega), wrap64_id (x := rd l (Int.tmod ((s + 1 : Nat) : Int) (l.length : Int)) * 13) (by omega) (by omega), wrap64_id (x := (rd l (Int.tmod (s : Int) (l.length : Int)) + Int.tdiv (s : Int) (l.length : Int) * 37) * 251 + rd l (Int.tmod ((s + 1 : Nat) : Int) (l.length : Int)) * 13) (by omega) (by omega), wrap64_id (x := (rd l (Int.tmod (s : Int) (l.length : Int)) + Int.tdiv (s : Int) (l.length : Int) * 37) * 251 + rd l (Int.tmod ((s + 1 : Nat) : Int) (l.length : Int)) * 13 + (s : Int)) (by omega) (by omega)]
    exact ⟨_, s + 1, rfl, md _ (by omega)⟩
  · rw [if_neg h2, if_neg (by omega)]
    exact ⟨_, s + 1, rfl, md _ (by omega)⟩
theorem chance_ok (l : List Int) (hB : ∀ y ∈ l, 0 ≤ y ∧ y < 256) (hl : l.length ≤ 1048576) (s : Nat) (s2 n : Int) (hs : s ≤ 100000) (hn : 1 ≤ n ∧ n ≤ 256) : ∃ (r : Bool) (s' : Nat), spec_l1Chance.f l (s : Int) s2 n = some (r, (s' : Int), s2) ∧ s' = s + 1 := by
  obtain ⟨r, s', er, _, _, h⟩ := next_ok l hB hl s s2 n hs hn
  unfold spec_l1Chance.f
  rw [er]
  exact ⟨_, s', rfl, h⟩
/-- A register drawn. -/
theorem reg_ok (l : List Int) (hB : ∀ y ∈ l, 0 ≤ y ∧ y < 256) (hl : l.length ≤ 1048576) (s : Nat) (s2 : Int) (hs : s ≤ 1000) : ∃ (r : Int) (s' : Nat), spec_func1.f l (s : Int) s2 = some (r, (s' : Int), s2) ∧ rB r = true ∧ s' = s + 2 := by
  obtain ⟨c, s1, ec, h1⟩ := chance_ok l hB hl s s2 4 (by omega) (by omega)
  unfold spec_func1.f
  rw [ec]
  simp only [Option.bind_some]
  cases c with
  | true =>
    obtain ⟨r, s', er, r0, r1, h⟩ := next_ok l hB hl s1 s2 32 (by omega) (by omega)
    simp only [if_true]
    rw [er]
    exact ⟨r, s', rfl, by simp only [rB, decide_eq_true_eq]; omega, by omega⟩
  | false =>
    obtain ⟨q, s', eq, q0, q1, h⟩ := next_ok l hB hl s1 s2 6 (by omega) (by omega)
    simp only [Bool.false_eq_true, if_false]
    rw [eq]
    simp only [Option.bind_some]
    rw [if_pos q0, if_pos (by simp only [List.length_cons, List.length_nil]; omega)]
    refine ⟨_, s', rfl, ?_, by omega⟩
    have hm := rd_mem (l := [6, 7, 8, 1, 0, 9]) (i := q) (by simp only [List.length_cons, List.length_nil]; omega) q0
    have : ∀ y ∈ ([6, 7, 8, 1, 0, 9] : List Int), rB y = true := by decide
    exact this _ hm
theorem imm_ok (l : List Int) (hB : ∀ y ∈ l, 0 ≤ y ∧ y < 256) (hl : l.length ≤ 1048576) (s : Nat) (s2 : Int) (hs : s ≤ 1000) : ∃ (r : Int) (s' : Nat), spec_l21Imm.f l (s : Int) s2 = some (r, (s' : Int), s2) ∧ fB r = true ∧ s' = s + 1 := by
  obtain ⟨q, s', eq, q0, q1, h⟩ := next_ok l hB hl s s2 10 (by omega) (by omega)
  unfold spec_l21Imm.f
  simp only [Option.bind_some]
  rw [eq]
  simp only [Option.bind_some]
  rw [if_pos q0, if_pos (by simp only [List.length_cons, List.length_nil]; omega)]
  refine ⟨_, s', rfl, ?_, by omega⟩
  have hm := rd_mem (l := [0, 1, (-1), 5, 64, 63, 2147483647, (-2147483648), 4096, 100]) (i := q) (by simp only [List.length_cons, List.length_nil]; omega) q0
  have : ∀ y ∈ ([0, 1, (-1), 5, 64, 63, 2147483647, (-2147483648), 4096, 100] : List Int), fB y = true := by decide
  exact this _ hm
theorem pick_ok {P : Int → Prop} (l : List Int) (hB : ∀ y ∈ l, 0 ≤ y ∧ y < 256) (hl : l.length ≤ 1048576) (s : Nat) (s2 : Int) (hs : s ≤ 1000) (ys : List Int) (hy : ∀ y ∈ ys, P y) (hn : 1 ≤ (ys.length : Int) ∧ (ys.length : Int) ≤ 256) : ∃ (q : Int) (s' : Nat), spec_l1Next.f l (s : Int) s2 (ys.length : Int) = some (q, (s' : Int), s2) ∧ 0 ≤ q ∧ q < (ys.length : Int) ∧ P (rd ys q) ∧ s' = s + 1 := by
  obtain ⟨q, s', eq, q0, q1, h⟩ := next_ok l hB hl s s2 (ys.length : Int) (by omega) hn
  exact ⟨q, s', eq, q0, q1, hy _ (rd_mem q1 q0), h⟩
/-! which instructions are good -/
theorem gd1 {op a b c : Int} (h : 1 ≤ op ∧ op ≤ 13) (ha : rB a = true) (hb : rB b = true) (hc : rB c = true) : goodI op a b c 0 = true := by
  have : useL op = [114, 114, 114, 45] := by unfold useL; rw [if_pos h]
  simp [goodI, goodL, this, okB, ha, hb, hc, fB, zB]
theorem gd2 {op a b m : Int} (h : 33 ≤ op ∧ op ≤ 45) (ha : rB a = true) (hb : rB b = true) (hm : fB m = true) : goodI op a b 0 m = true := by
  have : useL op = [114, 114, 45, 105] := by unfold useL; rw [if_neg (by omega), if_pos h]
  simp [goodI, goodL, this, okB, ha, hb, hm, zB]
theorem gd14 {a b c m : Int} (ha : rB a = true) (hb : rB b = true) (hc : rB c = true) (hm : pB m = true) : goodI 14 a b c m = true := by
  have : useL 14 = [114, 114, 114, 112] := by decide
  have hf : fB m = true := by simp only [pB, decide_eq_true_eq] at hm; simp only [fB, decide_eq_true_eq]; omega
  simp [goodI, goodL, this, okB, ha, hb, hc, hm, hf]
theorem gd46 {a b c m : Int} (ha : rB a = true) (hb : rB b = true) (hc : pB c = true) (hm : fB m = true) : goodI 46 a b c m = true := by
  have : useL 46 = [114, 114, 112, 105] := by decide
  simp [goodI, goodL, this, okB, ha, hb, hc, hm]
theorem gd15 {a b c m : Int} (ha : rB a = true) (hb : rB b = true) (hc : rB c = true) (hm : rB m = true) : goodI 15 a b c m = true := by
  have : useL 15 = [114, 114, 114, 114] := by decide
  have hf : fB m = true := by simp only [rB, decide_eq_true_eq] at hm; simp only [fB, decide_eq_true_eq]; omega
  simp [goodI, goodL, this, okB, ha, hb, hc, hm, hf]
theorem gd16 {op a b m : Int} (h : op = 16 ∨ op = 17) (ha : rB a = true) (hb : rB b = true) (hm : wdB m = true) : goodI op a b 0 m = true := by
  have : useL op = [114, 114, 45, 119] := by rcases h with rfl | rfl <;> decide
  have hf : fB m = true := by simp only [wdB, decide_eq_true_eq] at hm; simp only [fB, decide_eq_true_eq]; omega
  simp [goodI, goodL, this, okB, ha, hb, hm, hf, zB]
theorem gd18 {op a m : Int} (h : op = 18 ∨ op = 30 ∨ op = 24 ∨ op = 25) (ha : rB a = true) (hm : fB m = true) : goodI op a 0 0 m = true := by
  have : useL op = [114, 45, 45, 105] := by rcases h with rfl | rfl | rfl | rfl <;> decide
  simp [goodI, goodL, this, okB, ha, hm, zB]
theorem gd19 {a b m : Int} (ha : rB a = true) (hb : rB b = true) (hm : fB m = true) : goodI 19 a b 0 m = true := by
  have : useL 19 = [114, 114, 45, 105] := by decide
  simp [goodI, goodL, this, okB, ha, hb, hm, zB]
theorem gd20 {op a b c m : Int} (h : op = 20 ∨ op = 21) (ha : rB a = true) (hb : rB b = true) (hc : nB c = true) (hm : fB m = true) : goodI op a b c m = true := by
  have : useL op = [114, 114, 110, 105] := by rcases h with rfl | rfl <;> decide
  simp [goodI, goodL, this, okB, ha, hb, hc, hm]
theorem gd23 {op m : Int} (h : op = 23 ∨ op = 26) (hm : fB m = true) : goodI op 0 0 0 m = true := by
  have : useL op = [45, 45, 45, 105] := by rcases h with rfl | rfl <;> decide
  simp [goodI, goodL, this, okB, hm, zB]
theorem gd28 {op a : Int} (h : op = 28 ∨ op = 22) (ha : rB a = true) : goodI op a 0 0 0 = true := by
  rcases h with rfl | rfl
  · have : useL 28 = [114, 45, 45, 45] := by decide
    simp [goodI, goodL, this, okB, ha, zB, fB]
  · have : useL 22 = [114, 114, 45, 45] := by decide
    have r0 : rB 0 = true := by decide
    simp [goodI, goodL, this, okB, ha, r0, zB, fB]
theorem good_range {op a b c m : Int} (h : goodI op a b c m = true) : (1 ≤ op ∧ op ≤ 46) ∧ (0 ≤ a ∧ a ≤ 31) ∧ (0 ≤ b ∧ b ≤ 31) ∧ (0 ≤ c ∧ c ≤ 31) ∧ (-2147483648 ≤ m ∧ m ≤ 2147483647) := by
  have ok : ∀ q v : Int, q = 114 ∨ q = 112 ∨ q = 110 ∨ q = 45 → okB q v = true → 0 ≤ v ∧ v ≤ 31 := by
    intro q v hq h
    rcases hq with rfl | rfl | rfl | rfl
    all_goals simp [okB, rB, pB, nB, zB] at h
    all_goals omega
  unfold goodI at h
  rw [Bool.and_eq_true] at h
  obtain ⟨hm, h⟩ := h
  have hm' : -2147483648 ≤ m ∧ m ≤ 2147483647 := by simpa [fB] using hm
  have fin : ∀ p q r s : Int, (p = 114 ∨ p = 112 ∨ p = 110 ∨ p = 45) → (q = 114 ∨ q = 112 ∨ q = 110 ∨ q = 45) → (r = 114 ∨ r = 112 ∨ r = 110 ∨ r = 45) → goodL [p, q, r, s] a b c m = true → (0 ≤ a ∧ a ≤ 31) ∧ (0 ≤ b ∧ b ≤ 31) ∧ (0 ≤ c ∧ c ≤ 31) ∧ (-2147483648 ≤ m ∧ m ≤ 2147483647) := by
    intro p q r s hp hq hr h
    simp only [goodL, Bool.and_eq_true] at h
    exact ⟨ok p a hp h.1, ok q b hq h.2.1, ok r c hr h.2.2.1, hm'⟩
  unfold useL at h
  by_cases c : 1 ≤ op ∧ op ≤ 13
  · rw [if_pos c] at h
    exact ⟨by omega, fin _ _ _ _ (by decide) (by decide) (by decide) h⟩
  rw [if_neg c] at h
  clear c
  by_cases c : 33 ≤ op ∧ op ≤ 45
  · rw [if_pos c] at h
    exact ⟨by omega, fin _ _ _ _ (by decide) (by decide) (by decide) h⟩
  rw [if_neg c] at h
  clear c
  by_cases c : op = 14
  · rw [if_pos c] at h
    exact ⟨by omega, fin _ _ _ _ (by decide) (by decide) (by decide) h⟩
  rw [if_neg c] at h
  clear c
  by_cases c : op = 46
  · rw [if_pos c] at h
    exact ⟨by omega, fin _ _ _ _ (by decide) (by decide) (by decide) h⟩
  rw [if_neg c] at h
  clear c
  by_cases c : op = 15
  · rw [if_pos c] at h
    exact ⟨by omega, fin _ _ _ _ (by decide) (by decide) (by decide) h⟩
  rw [if_neg c] at h
  clear c
  by_cases c : op = 16 ∨ op = 17
  · rw [if_pos c] at h
    exact ⟨by omega, fin _ _ _ _ (by decide) (by decide) (by decide) h⟩
  rw [if_neg c] at h
  clear c
  by_cases c : op = 18 ∨ op = 30 ∨ op = 24 ∨ op = 25
  · rw [if_pos c] at h
    exact ⟨by omega, fin _ _ _ _ (by decide) (by decide) (by decide) h⟩
  rw [if_neg c] at h
  clear c
  by_cases c : op = 19
  · rw [if_pos c] at h
    exact ⟨by omega, fin _ _ _ _ (by decide) (by decide) (by decide) h⟩
  rw [if_neg c] at h
  clear c
  by_cases c : op = 20 ∨ op = 21
  · rw [if_pos c] at h
    exact ⟨by omega, fin _ _ _ _ (by decide) (by decide) (by decide) h⟩
  rw [if_neg c] at h
  clear c
  by_cases c : op = 22
  · rw [if_pos c] at h
    exact ⟨by omega, fin _ _ _ _ (by decide) (by decide) (by decide) h⟩
  rw [if_neg c] at h
  clear c
  by_cases c : op = 23 ∨ op = 26
  · rw [if_pos c] at h
    exact ⟨by omega, fin _ _ _ _ (by decide) (by decide) (by decide) h⟩
  rw [if_neg c] at h
  clear c
  by_cases c : op = 27 ∨ op = 29
  · rw [if_pos c] at h
    exact ⟨by omega, fin _ _ _ _ (by decide) (by decide) (by decide) h⟩
  rw [if_neg c] at h
  clear c
  by_cases c : op = 28
  · rw [if_pos c] at h
    exact ⟨by omega, fin _ _ _ _ (by decide) (by decide) (by decide) h⟩
  rw [if_neg c] at h
  clear c
  exact absurd h (by simp [goodL])
/-- An instruction drawn is good. -/
def GoodD (l : List Int) (s : Nat) (s2 : Int) (f : Nat → Option (Int × Int × Int × Int × Int × Int × Int)) : Prop := ∃ (op a b c m : Int) (s' : Nat), Ev f (op, a, b, c, m, (s' : Int), s2) ∧ goodI op a b c m = true ∧ s' ≤ s + 20
theorem GoodD.at {l : List Int} {s : Nat} {s2 : Int} {f : Nat → Option (Int × Int × Int × Int × Int × Int × Int)} {op a b c m : Int} (s' : Nat) (h : ∀ k, f (k + 1) = some (op, a, b, c, m, (s' : Int), s2)) (hg : goodI op a b c m = true) (hs : s' ≤ s + 20) : GoodD l s s2 f :=
  ⟨op, a, b, c, m, s', Ev.step (f := fun _ => some _) h (Ev.now _), hg, hs⟩
theorem GoodD.step {l : List Int} {s : Nat} {s2 : Int} {f g : Nat → Option (Int × Int × Int × Int × Int × Int × Int)} (h : ∀ k, f (k + 1) = g k) (hg : GoodD l s s2 g) : GoodD l s s2 f := by
  obtain ⟨op, a, b, c, m, s', ev, h1, h2⟩ := hg
  exact ⟨op, a, b, c, m, s', Ev.step h ev, h1, h2⟩
theorem GoodD.congr {l : List Int} {s : Nat} {s2 : Int} {f g : Nat → Option (Int × Int × Int × Int × Int × Int × Int)} (h : ∀ k, f k = g k) (hg : GoodD l s s2 g) : GoodD l s s2 f := by
  obtain ⟨op, a, b, c, m, s', ev, h1, h2⟩ := hg
  exact ⟨op, a, b, c, m, s', Ev.congr h ev, h1, h2⟩
theorem l21_ok (l : List Int) (hB : ∀ y ∈ l, 0 ≤ y ∧ y < 256) (hl : l.length ≤ 1048576) (s : Nat) (s2 : Int) (hs : s ≤ 100) : GoodD l s s2 (fun k => spec_l21Ins.f k l (s : Int) s2) := by
  obtain ⟨a, s1, ea, ra, e1⟩ := reg_ok l hB hl s s2 (by omega)
  obtain ⟨v, t, ev, v0, v1, e2⟩ := next_ok l hB hl s1 s2 16 (by omega) (by omega)
  have t0 : GoodD l s s2 (fun k => spec_l21Ins.j0 k a v true l (t : Int) s2) := by
    obtain ⟨x, q1, ex, x0, x1, f1⟩ := next_ok l hB hl t s2 13 (by omega) (by omega)
    obtain ⟨b, q2, eb, rb, f2⟩ := reg_ok l hB hl q1 s2 (by omega)
    obtain ⟨c, q3, ec, rc, f3⟩ := reg_ok l hB hl q2 s2 (by omega)
    refine GoodD.at q3 (fun k => ?_) (gd1 (op := wrap64 (1 + x)) (by rw [wrap64_id (by omega) (by omega)]; omega) ra rb rc) (by omega)
    simp only [spec_l21Ins.j0, if_true, ex, Option.bind_some, eb, ec]
  have t1 : GoodD l s s2 (fun k => spec_l21Ins.j1 k a v true l (t : Int) s2) := by
    obtain ⟨x, q1, ex, x0, x1, f1⟩ := next_ok l hB hl t s2 13 (by omega) (by omega)
    obtain ⟨b, q2, eb, rb, f2⟩ := reg_ok l hB hl q1 s2 (by omega)
    obtain ⟨c, q3, ec, rc, f3⟩ := imm_ok l hB hl q2 s2 (by omega)
    refine GoodD.at q3 (fun k => ?_) (gd2 (op := wrap64 (33 + x)) (by rw [wrap64_id (by omega) (by omega)]; omega) ra rb rc) (by omega)
    simp only [spec_l21Ins.j1, if_true, ex, Option.bind_some, eb, ec]
  have t2 : GoodD l s s2 (fun k => spec_l21Ins.j2 k a v true l (t : Int) s2) := by
    obtain ⟨x, q1, ex, x0, x1, f1⟩ := next_ok l hB hl t s2 2 (by omega) (by omega)
    obtain ⟨b, q2, eb, rb, f2⟩ := reg_ok l hB hl q1 s2 (by omega)
    obtain ⟨c, q3, ec, c0, c1, rc, f3⟩ := pick_ok (P := fun y => nB y = true) l hB hl q2 s2 (by omega) [1, 2, 4, 8] (by decide) (by decide)
    obtain ⟨m, q4, em, m0, m1, rm, f4⟩ := pick_ok (P := fun y => fB y = true) l hB hl q3 s2 (by omega) [4096, 4100, 5000, 8, (-8), (-16), 1048576] (by decide) (by decide)
    refine GoodD.at q4 (fun k => ?_) (gd20 (op := wrap64 (20 + x)) (by rw [wrap64_id (by omega) (by omega)]; omega) ra rb rc rm) (by omega)
    have ec' : spec_l1Next.f l (q2 : Int) s2 4 = some (c, (q3 : Int), s2) := ec
    have em' : spec_l1Next.f l (q3 : Int) s2 7 = some (m, (q4 : Int), s2) := em
    simp only [spec_l21Ins.j2, if_true, ex, Option.bind_some, eb, ec', em', if_pos c0, if_pos c1, if_pos m0, if_pos m1]
  have f2 : GoodD l s s2 (fun k => spec_l21Ins.j2 k a v false l (t : Int) s2) := by
    by_cases c1 : v = 13
    · obtain ⟨x, q1, ex, x0, x1, rx, f1⟩ := pick_ok (P := fun y => y = 23 ∨ y = 26) l hB hl t s2 (by omega) [23, 26] (by decide) (by decide)
      obtain ⟨m, q2, em, m0, m1, f3⟩ := next_ok l hB hl q1 s2 6 (by omega) (by omega)
      refine GoodD.at q2 (fun k => ?_) (gd23 (m := wrap64 (m - 2)) rx (by rw [wrap64_id (by omega) (by omega)]; simp only [fB, decide_eq_true_eq]; omega)) (by omega)
      have ex' : spec_l1Next.f l (t : Int) s2 2 = some (x, (q1 : Int), s2) := ex
      simp only [spec_l21Ins.j2, Bool.false_eq_true, if_false, if_pos c1, ex', em, Option.bind_some, if_pos x0, if_pos x1]
    by_cases c2 : v = 14
    · obtain ⟨x, q1, ex, x0, x1, f1⟩ := next_ok l hB hl t s2 2 (by omega) (by omega)
      obtain ⟨m, q2, em, m0, m1, f3⟩ := next_ok l hB hl q1 s2 6 (by omega) (by omega)
      refine GoodD.at q2 (fun k => ?_) (gd18 (op := wrap64 (24 + x)) (m := wrap64 (m - 2)) (by rw [wrap64_id (by omega) (by omega)]; omega) ra (by rw [wrap64_id (by omega) (by omega)]; simp only [fB, decide_eq_true_eq]; omega)) (by omega)
      simp only [spec_l21Ins.j2, Bool.false_eq_true, if_false, if_neg c1, if_pos c2, ex, em, Option.bind_some]
    obtain ⟨b, q1, eb, f1⟩ := chance_ok l hB hl t s2 2 (by omega) (by omega)
    cases b with
    | true =>
      obtain ⟨x, q2, ex, x0, x1, rx, f3⟩ := pick_ok (P := fun y => goodI y 0 0 0 0 = true) l hB hl q1 s2 (by omega) [27, 29, 27] (by decide) (by decide)
      refine GoodD.at q2 (fun k => ?_) rx (by omega)
      have ex' : spec_l1Next.f l (q1 : Int) s2 3 = some (x, (q2 : Int), s2) := ex
      simp only [spec_l21Ins.j2, Bool.false_eq_true, if_false, if_neg c1, if_neg c2, eb, if_true, ex', Option.bind_some, if_pos x0, if_pos x1]
    | false =>
      obtain ⟨x, q2, ex, x0, x1, rx, f3⟩ := pick_ok (P := fun y => y = 28 ∨ y = 22) l hB hl q1 s2 (by omega) [28, 22] (by decide) (by decide)
      refine GoodD.at q2 (fun k => ?_) (gd28 rx ra) (by omega)
      have ex' : spec_l1Next.f l (q1 : Int) s2 2 = some (x, (q2 : Int), s2) := ex
      simp only [spec_l21Ins.j2, Bool.false_eq_true, if_false, if_neg c1, if_neg c2, eb, ex', Option.bind_some, if_pos x0, if_pos x1]
  have b2 : ∀ x, GoodD l s s2 (fun k => spec_l21Ins.j2 k a v x l (t : Int) s2) := fun x => match x with | true => t2 | false => f2
  have f1 : GoodD l s s2 (fun k => spec_l21Ins.j1 k a v false l (t : Int) s2) := by
    by_cases c5 : v = 5
    · obtain ⟨b, q1, eb, rb, g1⟩ := reg_ok l hB hl t s2 (by omega)
      obtain ⟨c, q2, ec, rc, g2⟩ := reg_ok l hB hl q1 s2 (by omega)
      obtain ⟨m, q3, em, m0, m1, g3⟩ := next_ok l hB hl q2 s2 10 (by omega) (by omega)
      refine GoodD.at q3 (fun k => ?_) (gd14 (m := wrap64 (1 + m)) ra rb rc (by rw [wrap64_id (by omega) (by omega)]; simp only [pB, decide_eq_true_eq]; omega)) (by omega)
      simp only [spec_l21Ins.j1, Bool.false_eq_true, if_false, if_pos c5, eb, ec, em, Option.bind_some]
    by_cases c6 : v = 6
    · obtain ⟨b, q1, eb, rb, g1⟩ := reg_ok l hB hl t s2 (by omega)
      obtain ⟨m, q2, em, m0, m1, g3⟩ := next_ok l hB hl q1 s2 10 (by omega) (by omega)
      obtain ⟨c, q3, ec, rc, g2⟩ := imm_ok l hB hl q2 s2 (by omega)
      refine GoodD.at q3 (fun k => ?_) (gd46 (c := wrap64 (1 + m)) ra rb (by rw [wrap64_id (by omega) (by omega)]; simp only [pB, decide_eq_true_eq]; omega) rc) (by omega)
      simp only [spec_l21Ins.j1, Bool.false_eq_true, if_false, if_neg c5, if_pos c6, eb, ec, em, Option.bind_some]
    by_cases c7 : v = 7
    · obtain ⟨b, q1, eb, rb, g1⟩ := reg_ok l hB hl t s2 (by omega)
      obtain ⟨c, q2, ec, rc, g2⟩ := reg_ok l hB hl q1 s2 (by omega)
      obtain ⟨m, q3, em, rm, g3⟩ := reg_ok l hB hl q2 s2 (by omega)
      refine GoodD.at q3 (fun k => ?_) (gd15 ra rb rc rm) (by omega)
      simp only [spec_l21Ins.j1, Bool.false_eq_true, if_false, if_neg c5, if_neg c6, if_pos c7, eb, ec, em, Option.bind_some]
    by_cases c8 : v = 8
    · obtain ⟨x, q1, ex, x0, x1, g1⟩ := next_ok l hB hl t s2 2 (by omega) (by omega)
      obtain ⟨b, q2, eb, rb, g2⟩ := reg_ok l hB hl q1 s2 (by omega)
      obtain ⟨m, q3, em, m0, m1, rm, g3⟩ := pick_ok (P := fun y => wdB y = true) l hB hl q2 s2 (by omega) [1, 8, 16, 32] (by decide) (by decide)
      refine GoodD.at q3 (fun k => ?_) (gd16 (op := wrap64 (16 + x)) (by rw [wrap64_id (by omega) (by omega)]; omega) ra rb rm) (by omega)
      have em' : spec_l1Next.f l (q2 : Int) s2 4 = some (m, (q3 : Int), s2) := em
      simp only [spec_l21Ins.j1, Bool.false_eq_true, if_false, if_neg c5, if_neg c6, if_neg c7, if_pos c8, ex, eb, em', Option.bind_some, if_pos m0, if_pos m1]
    by_cases c9 : v = 9
    · obtain ⟨x, q1, ex, x0, x1, rx, g1⟩ := pick_ok (P := fun y => y = 18 ∨ y = 30 ∨ y = 24 ∨ y = 25) l hB hl t s2 (by omega) [18, 30] (by decide) (by decide)
      obtain ⟨m, q2, em, rm, g2⟩ := imm_ok l hB hl q1 s2 (by omega)
      refine GoodD.at q2 (fun k => ?_) (gd18 rx ra rm) (by omega)
      have ex' : spec_l1Next.f l (t : Int) s2 2 = some (x, (q1 : Int), s2) := ex
      simp only [spec_l21Ins.j1, Bool.false_eq_true, if_false, if_neg c5, if_neg c6, if_neg c7, if_neg c8, if_pos c9, ex', em, Option.bind_some, if_pos x0, if_pos x1]
    by_cases c10 : v = 10
    · obtain ⟨b, q1, eb, rb, g1⟩ := reg_ok l hB hl t s2 (by omega)
      obtain ⟨m, q2, em, rm, g2⟩ := imm_ok l hB hl q1 s2 (by omega)
      refine GoodD.at q2 (fun k => ?_) (gd19 ra rb rm) (by omega)
      simp only [spec_l21Ins.j1, Bool.false_eq_true, if_false, if_neg c5, if_neg c6, if_neg c7, if_neg c8, if_neg c9, if_pos c10, eb, em, Option.bind_some]
    by_cases c11 : v = 11
    · refine GoodD.step (fun k => ?_) (b2 (v == 11))
      simp only [spec_l21Ins.j1, Bool.false_eq_true, if_false, if_neg c5, if_neg c6, if_neg c7, if_neg c8, if_neg c9, if_neg c10, if_pos c11]
    · refine GoodD.step (fun k => ?_) (b2 (v == 12))
      simp only [spec_l21Ins.j1, Bool.false_eq_true, if_false, if_neg c5, if_neg c6, if_neg c7, if_neg c8, if_neg c9, if_neg c10, if_neg c11]
  have b1 : ∀ x, GoodD l s s2 (fun k => spec_l21Ins.j1 k a v x l (t : Int) s2) := fun x => match x with | true => t1 | false => f1
  have f0 : GoodD l s s2 (fun k => spec_l21Ins.j0 k a v false l (t : Int) s2) := by
    by_cases c3 : v = 3
    · refine GoodD.step (fun k => ?_) (b1 (v == 3))
      simp only [spec_l21Ins.j0, Bool.false_eq_true, if_false, if_pos c3]
    · refine GoodD.step (fun k => ?_) (b1 (v == 4))
      simp only [spec_l21Ins.j0, Bool.false_eq_true, if_false, if_neg c3]
  have b0 : ∀ x, GoodD l s s2 (fun k => spec_l21Ins.j0 k a v x l (t : Int) s2) := fun x => match x with | true => t0 | false => f0
  by_cases c0 : v = 0
  · refine GoodD.congr (fun k => ?_) (b0 (v == 0))
    unfold spec_l21Ins.f
    simp only [ea, Option.bind_some, ev, if_pos c0]
  by_cases c1 : v = 1
  · refine GoodD.congr (fun k => ?_) (b0 (v == 1))
    unfold spec_l21Ins.f
    simp only [ea, Option.bind_some, ev, if_neg c0, if_pos c1]
  · refine GoodD.congr (fun k => ?_) (b0 (v == 2))
    unfold spec_l21Ins.f
    simp only [ea, Option.bind_some, ev, if_neg c0, if_neg c1]
theorem source_ok (l : List Int) : ∃ c : Int, spec_l1Source.f l = some (l, ((0 : Nat) : Int), c) := by
  unfold spec_l1Source.f
  split
  · exact ⟨_, rfl⟩
  · exact ⟨_, rfl⟩
theorem bend_ok (l : List Int) (hB : ∀ y ∈ l, 0 ≤ y ∧ y < 256) (hl : l.length ≤ 1048576) (s : Nat) (s2 : Int) (hs : s ≤ 1000) (op a b c m : Int) (ho : -9223372036854775808 ≤ op ∧ op ≤ 9223372036854775807) : ∃ (op' a' b' c' m' : Int) (s' : Nat), spec_l21BendIns.f l (s : Int) s2 op a b c m = some (op', a', b', c', m', (s' : Int), s2) ∧ -9223372036854775808 ≤ op' ∧ op' ≤ 9223372036854775807 := by
  obtain ⟨v, t, ev, v0, v1, e2⟩ := next_ok l hB hl s s2 6 (by omega) (by omega)
  unfold spec_l21BendIns.f
  simp only [ev, Option.bind_some]
  by_cases c0 : v = 0
  · obtain ⟨x, q, ex, x0, x1, _⟩ := next_ok l hB hl t s2 70 (by omega) (by omega)
    simp only [if_pos c0, ex, Option.bind_some]
    exact ⟨_, _, _, _, _, q, rfl, by rw [wrap64_id (by omega) (by omega)]; omega, by rw [wrap64_id (by omega) (by omega)]; omega⟩
  by_cases c1 : v = 1
  · obtain ⟨x, q, ex, x0, x1, _⟩ := next_ok l hB hl t s2 2 (by omega) (by omega)
    simp only [if_neg c0, if_pos c1, ex, Option.bind_some]
    exact ⟨_, _, _, _, _, q, rfl, ho⟩
  by_cases c2 : v = 2
  · simp only [if_neg c0, if_neg c1, if_pos c2]
    exact ⟨_, _, _, _, _, t, rfl, ho⟩
  by_cases c3 : v = 3
  · obtain ⟨x, q, ex, x0, x1, _⟩ := next_ok l hB hl t s2 7 (by omega) (by omega)
    simp only [if_neg c0, if_neg c1, if_neg c2, if_pos c3, ex, Option.bind_some]
    rw [if_pos x0, if_pos (by simp only [List.length_cons, List.length_nil]; omega)]
    exact ⟨_, _, _, _, _, q, rfl, ho⟩
  by_cases c4 : v = 4
  · obtain ⟨x, q, ex, x0, x1, _⟩ := next_ok l hB hl t s2 7 (by omega) (by omega)
    simp only [if_neg c0, if_neg c1, if_neg c2, if_neg c3, if_pos c4, ex, Option.bind_some]
    rw [if_pos x0, if_pos (by simp only [List.length_cons, List.length_nil]; omega)]
    exact ⟨_, _, _, _, _, q, rfl, ho⟩
  by_cases c5 : v = 5
  · simp only [if_neg c0, if_neg c1, if_neg c2, if_neg c3, if_neg c4, if_pos c5]
    exact ⟨_, _, _, _, _, t, rfl, ho⟩
  · simp only [if_neg c0, if_neg c1, if_neg c2, if_neg c3, if_neg c4, if_neg c5]
    exact ⟨_, _, _, _, _, t, rfl, ho⟩
theorem fault_ok (l : List Int) (hB : ∀ y ∈ l, 0 ≤ y ∧ y < 256) (hl : l.length ≤ 1048576) : ∃ (op a b c m : Int), Ev (fun k => spec_DrawInsFault.f k l) (op, a, b, c, m) ∧ -9223372036854775808 ≤ op ∧ op ≤ 9223372036854775807 := by
  obtain ⟨x, ex⟩ := source_ok l
  obtain ⟨op, a, b, c, m, s1, ev, hg, h1⟩ := l21_ok l hB hl 0 x (by omega)
  obtain ⟨⟨o1, o2⟩, _⟩ := good_range hg
  obtain ⟨y, s2, ey, h2⟩ := chance_ok l hB hl s1 x 2 (by omega) (by omega)
  cases y with
  | true =>
    obtain ⟨op', a', b', c', m', s3, eb, r1, r2⟩ := bend_ok l hB hl s2 x (by omega) op a b c m (by omega)
    refine ⟨op', a', b', c', m', ?_, r1, r2⟩
    unfold spec_DrawInsFault.f
    simp only [ex, Option.bind_some]
    refine Ev.bind ev ?_
    simp only [ey, Option.bind_some, if_true, eb]
    exact Ev.now _
  | false =>
    refine ⟨op, a, b, c, m, ?_, by omega, by omega⟩
    unfold spec_DrawInsFault.f
    simp only [ex, Option.bind_some]
    refine Ev.bind ev ?_
    simp only [ey, Option.bind_some, Bool.false_eq_true, if_false]
    exact Ev.now _
theorem encL_bytes (op a b c m : Int) : ∀ y ∈ encL op a b c m, 0 ≤ y ∧ y < 256 := by
  intro y hy
  simp only [encL, List.mem_cons, List.not_mem_nil, or_false] at hy
  omega
theorem drawn_ok (l : List Int) (hB : ∀ y ∈ l, 0 ≤ y ∧ y < 256) (hl : l.length ≤ 1048576) : ∃ r : List Int, Ev (fun k => spec_DrawDecodeIns.f k l) r ∧ ∀ y ∈ r, 0 ≤ y ∧ y < 256 := by
  obtain ⟨x, ex⟩ := source_ok l
  obtain ⟨op, a, b, c, m, s1, ev, hg, h1⟩ := l21_ok l hB hl 0 x (by omega)
  obtain ⟨⟨o1, o2⟩, _, _, _, m1, m2⟩ := good_range hg
  have en := spec_enc_ev op a b c m (by omega) (by omega)
  rw [show encR op a b c m = encL op a b c m by unfold encR; rw [if_pos hg]] at en
  have hb := encL_bytes op a b c m
  have h8 : (encL op a b c m).length = 8 := rfl
  obtain ⟨v, s2, ev2, v0, v1, h2⟩ := next_ok l hB hl s1 x 6 (by omega) (by omega)
  generalize encL op a b c m = e at en hb h8
  by_cases c0 : v = 0
  · obtain ⟨i, s3, ei, i0, i1, h3⟩ := next_ok l hB hl s2 x 8 (by omega) (by omega)
    obtain ⟨z, s4, ez, z0, z1, h4⟩ := next_ok l hB hl s3 x 256 (by omega) (by omega)
    refine ⟨e.set (i : Int).toNat (z % 256), ?_, ?_⟩
    · unfold spec_DrawDecodeIns.f
      simp only [ex, Option.bind_some]
      refine Ev.bind ev (Ev.bind en ?_)
      simp only [ev2, Option.bind_some, if_pos c0, ei, ez, if_pos i0]
      rw [if_pos (by omega)]
      exact Ev.now _
    · intro y hy
      rcases List.mem_or_eq_of_mem_set hy with h | h
      · exact hb y h
      · omega
  by_cases c1 : v = 1
  · refine ⟨e.take (7 : Int).toNat, ?_, fun y hy => hb y (List.mem_of_mem_take hy)⟩
    unfold spec_DrawDecodeIns.f
    simp only [ex, Option.bind_some]
    refine Ev.bind ev (Ev.bind en ?_)
    simp only [ev2, Option.bind_some, if_neg c0, if_pos c1]
    rw [if_pos (by omega)]
    exact Ev.now _
  by_cases c2 : v = 2
  · refine ⟨e ++ [0], ?_, ?_⟩
    · unfold spec_DrawDecodeIns.f
      simp only [ex, Option.bind_some]
      refine Ev.bind ev (Ev.bind en ?_)
      simp only [ev2, Option.bind_some, if_neg c0, if_neg c1, if_pos c2]
      rw [if_pos (by omega)]
      exact Ev.now _
    · intro y hy
      rw [List.mem_append] at hy
      rcases hy with h | h
      · exact hb y h
      · simp only [List.mem_cons, List.not_mem_nil, or_false] at h
        omega
  · refine ⟨e, ?_, hb⟩
    unfold spec_DrawDecodeIns.f
    simp only [ex, Option.bind_some]
    refine Ev.bind ev (Ev.bind en ?_)
    simp only [ev2, Option.bind_some, if_neg c0, if_neg c1, if_neg c2]
    exact Ev.now _
/-! there and back -/
theorem dec_enc {op a b c m : Int} (h : goodI op a b c m = true) : decR (encL op a b c m) = (true, op, a, b, c, m) := by
  obtain ⟨h1, h2, h3, h4, h5⟩ := good_range h
  have e1 : op % 256 = op := by omega
  have e2 : a % 256 = a := by omega
  have e3 : b % 256 = b := by omega
  have e4 : c % 256 = c := by omega
  have e5 : dS (m % 4294967296 % 256) (m % 4294967296 / 256 % 256) (m % 4294967296 / 65536 % 256) (m % 4294967296 / 16777216) = m := by
    unfold dS dW
    split <;> omega
  unfold encL
  rw [e1, e2, e3, e4]
  simp only [decR, e5]
  rw [if_pos h]
theorem enc_dec {l : List Int} (hB : ∀ y ∈ l, 0 ≤ y ∧ y < 256) {op a b c m : Int} (h : decR l = (true, op, a, b, c, m)) : encR op a b c m = l := by
  unfold decR at h
  split at h
  · rename_i b0 b1 b2 b3 b4 b5 b6 b7
    split at h
    · rename_i hg
      simp only [Prod.mk.injEq, true_and] at h
      obtain ⟨rfl, rfl, rfl, rfl, rfl⟩ := h
      have g0 := hB b0 (by simp)
      have g1 := hB b1 (by simp)
      have g2 := hB b2 (by simp)
      have g3 := hB b3 (by simp)
      have g4 := hB b4 (by simp)
      have g5 := hB b5 (by simp)
      have g6 := hB b6 (by simp)
      have g7 := hB b7 (by simp)
      have e : dS b4 b5 b6 b7 % 4294967296 = dW b4 b5 b6 b7 := by
        unfold dS dW
        split <;> omega
      unfold encR
      rw [if_pos hg]
      unfold encL
      rw [e]
      unfold dW
      simp only [List.cons.injEq, and_true]
      refine ⟨?_, ?_, ?_, ?_, ?_, ?_, ?_, ?_⟩ <;> omega
    · simp at h
  · simp at h
theorem FnIns : laws_FnIns.Pure := by
  intro l0 l1 h0 _ hb0 h1 _ hb1
  have by0 : ∀ {l : List Int}, (∀ x ∈ l, (Lit.int .u8 x).wf = true) → ∀ y ∈ l, 0 ≤ y ∧ y < 256 := by
    intro l hw y h
    have := hw y h
    simp [Lit.wf, IntKind.min, IntKind.max, IntKind.signed, IntKind.bits] at this
    omega
  have far : ∀ l0 l1, Ev (fun k => laws_FnIns.j0 k l0 l1 true) true := fun l0 l1 =>
    Ev.step (f := fun _ => some true) (fun k => by simp only [laws_FnIns.j0, if_true]) (Ev.now true)
  refine Ev.rounds ?_
  unfold laws_FnIns.f
  by_cases n0 : (l0.length : Int) > 1048576
  · simp only [if_pos n0]
    exact far l0 l1
  simp only [if_neg n0]
  by_cases n1 : (l1.length : Int) > 1048576
  · simp only [decide_eq_true n1]
    exact far l0 l1
  simp only [decide_eq_false n1]
  obtain ⟨op, a, b, c, m, ev, o1, o2⟩ := fault_ok l0 (by0 hb0) (by omega)
  obtain ⟨odd, ev2, hodd⟩ := drawn_ok l1 (by0 hb1) (by omega)
  have j1 : Ev (fun k => laws_FnIns.j1 k l1 false) true := by
    refine Ev.step (fun k => by simp only [laws_FnIns.j1, Bool.false_eq_true, if_false]; rfl) (Ev.bind ev2 (Ev.bind (decode_ev odd hodd).2 (Ev.bind (decode_ev odd hodd).1 ?_)))
    rcases hd : decR odd with ⟨g, p, q, r, s, u⟩
    simp only [beq_self_eq_true, if_true]
    cases g with
    | false =>
      simp only [Bool.false_eq_true, if_false]
      exact Ev.now true
    | true =>
      simp only [if_true]
      refine Ev.bind (impl_enc_ev p q r s u) ?_
      rw [enc_dec hodd hd]
      simp only [beq_self_eq_true]
      exact Ev.now true
  refine Ev.step (fun k => by simp only [laws_FnIns.j0, Bool.false_eq_true, if_false]; rfl) (Ev.bind ev ?_)
  dsimp only
  refine Ev.bind (impl_enc_ev op a b c m) (Ev.bind (impl_ins_ev op a b c m) ?_)
  by_cases hg : goodI op a b c m = true
  · rw [hg]
    simp only [Bool.not_true, Bool.false_eq_true, if_false]
    rw [show encR op a b c m = encL op a b c m by unfold encR; rw [if_pos hg]]
    have d1 := (decode_ev (encL op a b c m) (encL_bytes op a b c m)).2
    rw [dec_enc hg] at d1
    refine Ev.bind d1 ?_
    simp only [show ((encL op a b c m).length : Int) = 8 from rfl, if_true, beq_self_eq_true, Bool.not_true, Bool.or_false, Bool.false_eq_true, if_false]
    have d2 := (decode_ev ((encL op a b c m).take 7) (fun y hy => encL_bytes op a b c m y (List.mem_of_mem_take hy))).2
    rw [show decR ((encL op a b c m).take 7) = (false, 0, 0, 0, 0, 0) from rfl] at d2
    simp only [if_pos (show (7 : Int) ≤ 8 by decide)]
    exact Ev.bind d2 j1
  · rw [Bool.not_eq_true] at hg
    rw [hg]
    simp only [Bool.not_false, if_true]
    have si := spec_ins_ev op a b c m ⟨o1, o2⟩
    rw [hg] at si
    refine Ev.bind si ?_
    simp only [Bool.not_false, if_true]
    rw [show encR op a b c m = [] by unfold encR; rw [hg]; rfl]
    exact Ev.now true

end Go.Proofs.Ytcjdgimiobhhnaa.Pure
