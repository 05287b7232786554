/- FnExactImageFault's plain law: for every argument both functions tell the same fault of an image, whatever its code, data, parameters and symbols; conditions: none but the bounds that the row gives. -/
import Derived.Test.YtnogjankhacdpaaOpenFnExactImageFault
import Derived.Test.YtnogjankhacdpaaPlGen
import Derived.Test.YtnogjankhacdpaaPlIns
import Derived.Laws.BitsAllLaws
import Derived.Laws.Bits64
namespace Go.Proofs.Ytnogjankhacdpaa.Pure
open Go.RowKit Go.Proofs.Ytnogjankhacdpaa.QFnExactImageFault Go.Proofs.Ytnogjankhacdpaa.OpenFnExactImageFault Go.Proofs.YtnogjankhacdpaaW.PrintWords Go.Proofs.YtnogjankhacdpaaW.PrintLast Go.Proofs.YtnogjankhacdpaaW.PrintMore Go.Proofs.Ytnogjankhacdpaa.RowOpen Go.Proofs.Ytnogjankhacdpaa.PlGen Go.Proofs.Ytnogjankhacdpaa.PlIns
set_option linter.unusedSimpArgs false
set_option linter.unusedVariables false
set_option linter.unusedSectionVars false
set_option maxHeartbeats 4000000

theorem impl_reg_at (v : Int) : impl_reg.f v = some (rB v) := by
  unfold impl_reg.f rB
  by_cases h : v ≥ 0
  · rw [if_pos h]
    congr 1
    rw [Bool.eq_iff_iff]
    simp only [decide_eq_true_eq]
    omega
  · rw [if_neg h, decide_eq_false (by omega)]
theorem impl_pred_at (v : Int) : impl_pred.f v = some (pB v) := by
  unfold impl_pred.f pB
  by_cases h : v ≥ 1
  · rw [if_pos h]
    congr 1
    rw [Bool.eq_iff_iff]
    simp only [decide_eq_true_eq]
    omega
  · rw [if_neg h, decide_eq_false (by omega)]
theorem impl_Fits_at (v : Int) : impl_Fits.f v = some (fB v) := by
  unfold impl_Fits.f fB
  by_cases h : v ≥ -2147483648
  · rw [if_pos h]
    congr 1
    rw [Bool.eq_iff_iff]
    simp only [decide_eq_true_eq]
    omega
  · rw [if_neg h, decide_eq_false (by omega)]
theorem impl_bytesCount_at (v : Int) : impl_bytesCount.f v = some (nB v) := by
  unfold impl_bytesCount.f nB
  by_cases h1 : v = 1
  · rw [if_pos h1, decide_eq_true (by omega)]
  by_cases h2 : v = 2
  · rw [if_neg h1, if_pos h2, decide_eq_true (by omega)]
  by_cases h4 : v = 4
  · rw [if_neg h1, if_neg h2, if_pos h4, decide_eq_true (by omega)]
  rw [if_neg h1, if_neg h2, if_neg h4]
  congr 1
  rw [Bool.eq_iff_iff]
  simp only [beq_iff_eq, decide_eq_true_eq]
  omega
theorem impl_step (k : Nat) (u : ByteArray) (L : List Int) (i : Nat) (hu : u.size = 4) (hL : L.length = 4) (hi : i < 4) :
    impl_InsFault.l0 (k + 1) u L 4 (i : Int) = if okB (bt u (i : Int)) (rd L (i : Int)) = true then impl_InsFault.l0 k u L 4 ((i + 1 : Nat) : Int) else some true := by
  simp only [impl_InsFault.l0]
  rw [if_pos (by omega), if_pos (by omega), if_pos (by omega), if_pos (by omega), impl_reg_at, impl_pred_at, impl_bytesCount_at]
  have hw : wrap64 ((i : Int) + 1) = ((i + 1 : Nat) : Int) := by
    unfold wrap64
    omega
  rw [hw]
  simp only [Option.bind_some]
  unfold okB
  generalize impl_InsFault.l0 k u L 4 ((i + 1 : Nat) : Int) = z
  generalize bt u (i : Int) = ch
  generalize rd L (i : Int) = v
  by_cases c1 : ch = 114
  · simp only [if_pos c1]
  by_cases c2 : ch = 112
  · simp only [if_neg c1, if_pos c2]
  by_cases c3 : ch = 110
  · simp only [if_neg c1, if_neg c2, if_pos c3]
  by_cases c4 : ch = 119
  · simp only [if_neg c1, if_neg c2, if_neg c3, if_pos c4]
    unfold wdB
    simp only [decide_eq_true_eq]
    by_cases w1 : v = 1
    · rw [if_pos w1, if_pos (Or.inl w1)]
    by_cases w8 : v = 8
    · rw [if_neg w1, if_pos w8, if_pos (Or.inr (Or.inl w8))]
    by_cases w16 : v = 16
    · rw [if_neg w1, if_neg w8, if_pos w16, if_pos (Or.inr (Or.inr (Or.inl w16)))]
    by_cases w32 : v = 32
    · rw [if_neg w1, if_neg w8, if_neg w16, if_pos w32, if_pos (Or.inr (Or.inr (Or.inr w32)))]
    rw [if_neg w1, if_neg w8, if_neg w16, if_neg w32, if_neg (by omega)]
  by_cases c5 : ch = 45
  · simp only [if_neg c1, if_neg c2, if_neg c3, if_neg c4, if_pos c5]
    unfold zB
    simp only [decide_eq_true_eq]
  · simp only [if_neg c1, if_neg c2, if_neg c3, if_neg c4, if_neg c5, if_true]
theorem impl_loop (k : Nat) (u : ByteArray) (a b c m : Int) (hu : u.size = 4) :
    impl_InsFault.l0 (k + 5) u [a, b, c, m] 4 0 = some (!(okB (bt u 0) a && (okB (bt u 1) b && (okB (bt u 2) c && okB (bt u 3) m)))) := by
  have s0 := impl_step (k + 4) u [a, b, c, m] 0 hu rfl (by omega)
  have s1 := impl_step (k + 3) u [a, b, c, m] 1 hu rfl (by omega)
  have s2 := impl_step (k + 2) u [a, b, c, m] 2 hu rfl (by omega)
  have s3 := impl_step (k + 1) u [a, b, c, m] 3 hu rfl (by omega)
  have s4 : impl_InsFault.l0 (k + 1) u [a, b, c, m] 4 ((4 : Nat) : Int) = some false := by
    simp only [impl_InsFault.l0]
    rw [if_neg (by omega)]
  have r0 : rd [a, b, c, m] ((0 : Nat) : Int) = a := rfl
  have r1 : rd [a, b, c, m] ((1 : Nat) : Int) = b := rfl
  have r2 : rd [a, b, c, m] ((2 : Nat) : Int) = c := rfl
  have r3 : rd [a, b, c, m] ((3 : Nat) : Int) = m := rfl
  rw [r0] at s0
  rw [r1] at s1
  rw [r2] at s2
  rw [r3] at s3
  show impl_InsFault.l0 (k + 4 + 1) u [a, b, c, m] 4 ((0 : Nat) : Int) = _
  rw [s0, show (0 + 1 : Nat) = 1 from rfl, s1, show (1 + 1 : Nat) = 2 from rfl, s2, show (2 + 1 : Nat) = 3 from rfl, s3, show (3 + 1 : Nat) = 4 from rfl, s4]
  show (if okB (bt u 0) a = true then (if okB (bt u 1) b = true then (if okB (bt u 2) c = true then (if okB (bt u 3) m = true then some false else some true) else some true) else some true) else some true) = _
  cases okB (bt u 0) a <;> cases okB (bt u 1) b <;> cases okB (bt u 2) c <;> cases okB (bt u 3) m <;> rfl
theorem impl_uses_at (op : Int) : ∃ u : ByteArray, impl_uses.f 9 op = some u ∧ ((useL op = [] ∧ u = ⟨#[]⟩) ∨ (u.size = 4 ∧ useL op = [bt u 0, bt u 1, bt u 2, bt u 3])) := by
  rcases op_cases op with h | h | rfl | rfl | rfl | rfl | rfl | rfl | rfl | rfl | rfl | rfl | rfl | rfl | rfl | rfl | rfl | rfl | rfl | rfl | h
  · refine ⟨⟨#[114, 114, 114, 45]⟩, ?_, Or.inr ⟨rfl, ?_⟩⟩
    · unfold impl_uses.f
      rw [if_pos (by omega), decide_eq_true (by omega)]
      rfl
    · unfold useL
      rw [if_pos h]
      decide +kernel
  · refine ⟨⟨#[114, 114, 45, 105]⟩, ?_, Or.inr ⟨rfl, ?_⟩⟩
    · unfold impl_uses.f
      rw [if_pos (by omega), decide_eq_false (by omega)]
      simp only [impl_uses.j0, Bool.false_eq_true, if_false]
      rw [if_pos (by omega), if_pos (by omega)]
    · unfold useL
      rw [if_neg (by omega), if_pos h]
      decide +kernel
  iterate 18
    refine ⟨_, rfl, Or.inr ⟨rfl, ?_⟩⟩
    decide +kernel
  refine ⟨⟨#[]⟩, ?_, Or.inl ⟨?_, rfl⟩⟩
  · unfold impl_uses.f
    have f : ∀ b, (b = true → False) → impl_uses.j0 9 op b = some ⟨#[]⟩ := by
      intro b hb
      have hb' : b = false := by simpa using hb
      subst hb'
      have e : ∀ n : Int, n = 16 ∨ n = 17 ∨ n = 18 ∨ n = 30 ∨ n = 20 ∨ n = 21 ∨ n = 23 ∨ n = 26 ∨ n = 24 ∨ n = 25 ∨ n = 27 ∨ n = 29 → (op == n) = false := by
        intro n hn
        rw [beq_eq_false_iff_ne]
        omega
      have j7 : ∀ k, impl_uses.j7 (k + 1) op false = some ⟨#[]⟩ := fun k => by
        simp only [impl_uses.j7, Bool.false_eq_true, if_false]
        rw [if_neg (by omega)]
      have j6 : ∀ k, impl_uses.j6 (k + 2) op false = some ⟨#[]⟩ := fun k => by
        simp only [impl_uses.j6, Bool.false_eq_true, if_false]
        rw [if_neg (by omega), e 29 (by omega), j7]
      have j5 : ∀ k, impl_uses.j5 (k + 3) op false = some ⟨#[]⟩ := fun k => by
        simp only [impl_uses.j5, Bool.false_eq_true, if_false]
        rw [if_neg (by omega), e 25 (by omega), j6]
      have j4 : ∀ k, impl_uses.j4 (k + 4) op false = some ⟨#[]⟩ := fun k => by
        simp only [impl_uses.j4, Bool.false_eq_true, if_false]
        rw [if_neg (by omega), if_neg (by omega), e 26 (by omega), j5]
      have j3 : ∀ k, impl_uses.j3 (k + 5) op false = some ⟨#[]⟩ := fun k => by
        simp only [impl_uses.j3, Bool.false_eq_true, if_false]
        rw [if_neg (by omega), if_neg (by omega), e 21 (by omega), j4]
      have j2 : ∀ k, impl_uses.j2 (k + 6) op false = some ⟨#[]⟩ := fun k => by
        simp only [impl_uses.j2, Bool.false_eq_true, if_false]
        rw [if_neg (by omega), e 30 (by omega), j3]
      have j1 : ∀ k, impl_uses.j1 (k + 7) op = some ⟨#[]⟩ := fun k => by
        simp only [impl_uses.j1]
        rw [if_neg (by omega), if_neg (by omega), if_neg (by omega), if_neg (by omega), e 17 (by omega), j2]
      simp only [impl_uses.j0, Bool.false_eq_true, if_false]
      rw [show (8 : Nat) = 1 + 7 from rfl, j1]
      split
      · rw [if_neg (by omega)]
      · rfl
    by_cases h1 : op ≥ 1
    · rw [if_pos h1, decide_eq_false (by omega)]
      exact f false (by simp)
    · rw [if_neg h1]
      exact f false (by simp)
  · unfold useL
    repeat rw [if_neg (by omega)]
theorem impl_ins_at (op a b c m : Int) : impl_InsFault.f 9 op a b c m = some (!goodI op a b c m) := by
  obtain ⟨u, hu, h⟩ := impl_uses_at op
  unfold impl_InsFault.f
  rw [hu]
  simp only [Option.bind_some]
  have jt : impl_InsFault.j0 9 u true op a b c m = some true := by simp only [impl_InsFault.j0, if_true]
  rcases h with ⟨hz, rfl⟩ | ⟨hs, hl⟩
  · rw [if_pos (by decide +kernel), jt]
    unfold goodI
    rw [hz]
    simp [goodL]
  · have hne : ¬ u.toList = [] := by
      intro e
      have : u.size = 0 := by
        rw [ByteArray.toList_eq] at e
        have := congrArg List.length e
        simpa using this
      omega
    rw [if_neg hne, impl_Fits_at]
    simp only [Option.bind_some]
    unfold goodI
    rw [hl]
    cases fB m with
    | false =>
      simp only [Bool.not_false, Bool.false_and]
      exact jt
    | true =>
      simp only [Bool.not_true, Bool.true_and, goodL, impl_InsFault.j0, Bool.false_eq_true, if_false, Option.bind_some]
      exact impl_loop 3 u a b c m hs

theorem laws_szByteS_at (l : List Int) (left : Int) (hl : l.length ≤ 9223372036854775807) (h0 : 0 ≤ left) (h1 : left ≤ 1048576) : laws_szByteS.f l left = some (if left - (l.length : Int) < 0 then -1 else left - l.length) := by
  unfold laws_szByteS.f
  rw [wrap64_id (by omega) (by omega)]
  split <;> rfl

theorem laws_toByteS_ev (l : List Int) (hl : l.length ≤ 1048576) : Ev (fun k => laws_toByteS.f k l) l := by
  have := copy_loop (fun k ys i => laws_toByteS.l0 k l ys i) l (fun x => x) (fun k ys => by simp only [laws_toByteS.l0]; rw [if_neg (by omega)])
    (fun i hi ys hy r h => by
      refine Ev.step (f := fun k => laws_toByteS.l0 k l (ys.set i l[i]) ((i + 1 : Nat) : Int)) (fun k => ?_) h
      simp only [laws_toByteS.l0]
      rw [if_pos (by omega), if_pos (by omega), if_pos (by omega), rd_at hi, wrap64_next hi (by omega)]
      rfl) (List.replicate ((l.length : Int)).toNat 0) (by simp)
  rw [List.map_id'] at this
  refine Ev.congr (fun k => ?_) this
  unfold laws_toByteS.f
  rw [if_pos (by omega), if_pos (by omega)]

theorem laws_eqByteS_ev (l : List Int) (hl : l.length ≤ 1099511627776) : Ev (fun k => laws_eqByteS.f k l l) true := by
  have := eq_loop (fun k i => laws_eqByteS.l0 k l l i) l.length (fun k => by simp only [laws_eqByteS.l0]; rw [if_neg (by omega)])
    (fun i hi h => by
      refine Ev.step (f := fun k => laws_eqByteS.l0 k l l ((i + 1 : Nat) : Int)) (fun k => ?_) h
      simp only [laws_eqByteS.l0]
      rw [if_pos (by omega), if_pos (by omega), if_pos (by omega), if_pos trivial, wrap64_next hi (by omega)])
  refine Ev.congr (fun k => ?_) this
  unfold laws_eqByteS.f
  rw [if_pos rfl]


theorem laws_szInt64S_at (l : List Int) (left : Int) (hl : l.length ≤ 9223372036854775807) (h0 : 0 ≤ left) (h1 : left ≤ 1048576) : laws_szInt64S.f l left = some (if left - (l.length : Int) < 0 then -1 else left - l.length) := by
  unfold laws_szInt64S.f
  rw [wrap64_id (by omega) (by omega)]
  split <;> rfl

theorem laws_toInt64S_ev (l : List Int) (hl : l.length ≤ 1048576) : Ev (fun k => laws_toInt64S.f k l) l := by
  have := copy_loop (fun k ys i => laws_toInt64S.l0 k l ys i) l (fun x => x) (fun k ys => by simp only [laws_toInt64S.l0]; rw [if_neg (by omega)])
    (fun i hi ys hy r h => by
      refine Ev.step (f := fun k => laws_toInt64S.l0 k l (ys.set i l[i]) ((i + 1 : Nat) : Int)) (fun k => ?_) h
      simp only [laws_toInt64S.l0]
      rw [if_pos (by omega), if_pos (by omega), if_pos (by omega), rd_at hi, wrap64_next hi (by omega)]
      rfl) (List.replicate ((l.length : Int)).toNat 0) (by simp)
  rw [List.map_id'] at this
  refine Ev.congr (fun k => ?_) this
  unfold laws_toInt64S.f
  rw [if_pos (by omega), if_pos (by omega)]

theorem laws_eqInt64S_ev (l : List Int) (hl : l.length ≤ 1099511627776) : Ev (fun k => laws_eqInt64S.f k l l) true := by
  have := eq_loop (fun k i => laws_eqInt64S.l0 k l l i) l.length (fun k => by simp only [laws_eqInt64S.l0]; rw [if_neg (by omega)])
    (fun i hi h => by
      refine Ev.step (f := fun k => laws_eqInt64S.l0 k l l ((i + 1 : Nat) : Int)) (fun k => ?_) h
      simp only [laws_eqInt64S.l0]
      rw [if_pos (by omega), if_pos (by omega), if_pos (by omega), if_pos trivial, wrap64_next hi (by omega)])
  refine Ev.congr (fun k => ?_) this
  unfold laws_eqInt64S.f
  rw [if_pos rfl]


/-! plain words: masks, high bits, signs -/
theorem pl_u64b {n : Int} (h : (Lit.int .u64 n).wf = true) : 0 ≤ n ∧ n < 18446744073709551616 := by
  simp [Lit.wf, IntKind.min, IntKind.max, IntKind.signed, IntKind.bits] at h
  omega
theorem pl_i64b {n : Int} (h : (Lit.int .i64 n).wf = true) : -9223372036854775808 ≤ n ∧ n ≤ 9223372036854775807 := by
  simp [Lit.wf, IntKind.min, IntKind.max, IntKind.signed, IntKind.bits] at h
  omega
theorem pl_hi (v w : Nat) (hv : v < 2 ^ 64) (hw : w ≤ 64) : v &&& (18446744073709551615 - (2 ^ w - 1)) = v / 2 ^ w * 2 ^ w := by
  have h2 : (2 : Nat) ^ w ≤ 2 ^ 64 := Nat.pow_le_pow_right (by omega) hw
  have h1 : 0 < (2 : Nat) ^ w := Nat.pow_pos (by omega)
  have e : 18446744073709551615 - (2 ^ w - 1) = 2 ^ 64 - ((2 ^ w - 1) + 1) := by omega
  rw [e, ← Nat.shiftRight_eq_div_pow, ← Nat.shiftLeft_eq]
  apply Nat.eq_of_testBit_eq
  intro i
  rw [Nat.testBit_and, Nat.testBit_two_pow_sub_succ (by omega), Nat.testBit_two_pow_sub_one, Nat.testBit_shiftLeft, Nat.testBit_shiftRight]
  by_cases h64 : i < 64
  · by_cases hi : i < w
    · have hn : ¬ w ≤ i := by omega
      simp [h64, hi, hn]
    · have hi' : w ≤ i := by omega
      simp [h64, hi, hi', Nat.add_sub_cancel' hi']
  · have : v.testBit i = false := Nat.testBit_lt_two_pow (Nat.lt_of_lt_of_le hv (Nat.pow_le_pow_right (by omega) (by omega)))
    by_cases hi' : w ≤ i
    · simp [this, Nat.add_sub_cancel' hi']
    · simp [this, hi']
theorem pl_or (v w : Nat) (hv : v < 2 ^ w) (hw : w ≤ 64) : v ||| (2 ^ 64 - 2 ^ w) = v + (2 ^ 64 - 2 ^ w) := by
  have e : (2 : Nat) ^ 64 - 2 ^ w = (2 ^ (64 - w) - 1) <<< w := by
    rw [Nat.shiftLeft_eq, Nat.sub_mul, ← Nat.pow_add, Nat.sub_add_cancel hw, Nat.one_mul]
  rw [e, Nat.or_comm, ← Nat.shiftLeft_add_eq_or_of_lt hv, Nat.add_comm]

def wB (w : Int) : Bool := w == 1 || w == 8 || w == 16 || w == 32 || w == 64
def isB (w v : Int) : Bool := wB w && decide (v < 2 ^ w.toNat)
def sgn (w v : Int) : Int := if v < 2 ^ (w.toNat - 1) then v else v - 2 ^ w.toNat
theorem wB_cases {w : Int} (h : wB w = true) : w = 1 ∨ w = 8 ∨ w = 16 ∨ w = 32 ∨ w = 64 := by
  simpa [wB, or_assoc] using h
theorem wB_not {w : Int} (h : wB w = false) : ¬ w = 1 ∧ ¬ w = 8 ∧ ¬ w = 16 ∧ ¬ w = 32 ∧ ¬ w = 64 := by
  simpa [wB, and_assoc] using h
theorem spec_vw (w : Int) : spec_ValidWidth.f w = some (wB w) := by
  by_cases h1 : w = 1
  · subst h1
    rfl
  by_cases h8 : w = 8
  · subst h8
    rfl
  by_cases h16 : w = 16
  · subst h16
    rfl
  by_cases h32 : w = 32
  · subst h32
    rfl
  have e1 : (w == 1) = false := by simpa using h1
  have e8 : (w == 8) = false := by simpa using h8
  have e16 : (w == 16) = false := by simpa using h16
  have e32 : (w == 32) = false := by simpa using h32
  simp only [spec_ValidWidth.f, if_neg h1, if_neg h8, if_neg h16, if_neg h32, wB, e1, e8, e16, e32, Bool.false_or]
theorem spec_mask_at {w : Int} (h : wB w = true) : spec_l1Mask.f w = some (2 ^ w.toNat - 1) := by
  rcases wB_cases h with rfl | rfl | rfl | rfl | rfl <;> decide +kernel
theorem spec_cut_at {w v : Int} (h : wB w = true) (h0 : 0 ≤ v) (h1 : v < 18446744073709551616) : spec_Cut.f w v = some (v % 2 ^ w.toNat) := by
  unfold spec_Cut.f
  rw [spec_vw, h, spec_mask_at h]
  obtain ⟨n, rfl⟩ := Int.eq_ofNat_of_zero_le h0
  simp only [Option.bind_some, if_true]
  have hm : ∀ k : Nat, k ≤ 64 → Go.bits .and .u64 (n : Int) (2 ^ k - 1) = (n : Int) % 2 ^ k := by
    intro k hk
    have h2 : (2 : Nat) ^ k ≤ 2 ^ 64 := Nat.pow_le_pow_right (by omega) hk
    have hp : 0 < (2 : Nat) ^ k := Nat.pow_pos (by omega)
    have e : ((2 : Int) ^ k - 1) = ((2 ^ k - 1 : Nat) : Int) := by
      rw [Int.natCast_sub hp]
      simp
    rw [e, u64_and_nat n (2 ^ k - 1) (by omega) (by omega), Nat.and_two_pow_sub_one_eq_mod]
    simp
  have hk : w.toNat ≤ 64 := by
    rcases wB_cases h with rfl | rfl | rfl | rfl | rfl <;> decide
  rw [hm w.toNat hk]
theorem spec_cut_no {w v : Int} (h : wB w = false) : spec_Cut.f w v = some 0 := by
  unfold spec_Cut.f
  rw [spec_vw, h]
  rfl
theorem spec_is_at (w v : Int) (h0 : 0 ≤ v) (h1 : v < 18446744073709551616) : spec_l1Is.f w v = some (isB w v) := by
  unfold spec_l1Is.f isB
  rw [spec_vw]
  cases h : wB w with
  | false => rfl
  | true =>
    simp only [Option.bind_some, if_true, Bool.true_and]
    rw [spec_cut_at h h0 h1]
    simp only [Option.bind_some, Option.some.injEq]
    rw [Bool.eq_iff_iff]
    simp only [beq_iff_eq, decide_eq_true_eq]
    have hp : (0 : Int) < 2 ^ w.toNat := Int.pow_pos (by omega)
    constructor
    · intro e
      rw [e]
      exact Int.emod_lt_of_pos v hp
    · intro e
      exact (Int.emod_eq_of_lt h0 e).symm
theorem spec_signed_at (w v : Int) (h0 : 0 ≤ v) (h1 : v < 18446744073709551616) : spec_Signed.f w v = some (if isB w v = true then sgn w v else 0) := by
  unfold spec_Signed.f
  rw [spec_is_at w v h0 h1]
  cases hi : isB w v with
  | false => rfl
  | true =>
    simp only [Option.bind_some, if_true]
    have hw : wB w = true := by
      unfold isB at hi
      exact (Bool.and_eq_true _ _ ▸ hi).1
    have hv : v < 2 ^ w.toNat := by
      unfold isB at hi
      exact of_decide_eq_true (Bool.and_eq_true _ _ ▸ hi).2
    have htop : spec_l1Top.f w v = some (decide (2 ^ (w.toNat - 1) ≤ v)) := by
      unfold spec_l1Top.f
      rcases wB_cases hw with rfl | rfl | rfl | rfl | rfl
      · rw [if_pos (by decide +kernel), show IntKind.u64.wrap (wrap64 (1 - 1)) = 0 from by decide +kernel]
        have hv' : v < 2 := hv
        show some (v / 1 == 1) = some (decide (1 ≤ v))
        congr 1
        rw [Bool.eq_iff_iff]
        simp only [beq_iff_eq, decide_eq_true_eq]
        omega
      · rw [if_pos (by decide +kernel), show IntKind.u64.wrap (wrap64 (8 - 1)) = 7 from by decide +kernel]
        have hv' : v < 256 := hv
        show some (v / 128 == 1) = some (decide (128 ≤ v))
        congr 1
        rw [Bool.eq_iff_iff]
        simp only [beq_iff_eq, decide_eq_true_eq]
        omega
      · rw [if_pos (by decide +kernel), show IntKind.u64.wrap (wrap64 (16 - 1)) = 15 from by decide +kernel]
        have hv' : v < 65536 := hv
        show some (v / 32768 == 1) = some (decide (32768 ≤ v))
        congr 1
        rw [Bool.eq_iff_iff]
        simp only [beq_iff_eq, decide_eq_true_eq]
        omega
      · rw [if_pos (by decide +kernel), show IntKind.u64.wrap (wrap64 (32 - 1)) = 31 from by decide +kernel]
        have hv' : v < 4294967296 := hv
        show some (v / 2147483648 == 1) = some (decide (2147483648 ≤ v))
        congr 1
        rw [Bool.eq_iff_iff]
        simp only [beq_iff_eq, decide_eq_true_eq]
        omega
      · rw [if_pos (by decide +kernel), show IntKind.u64.wrap (wrap64 (64 - 1)) = 63 from by decide +kernel]
        have hv' : v < 18446744073709551616 := hv
        show some (v / 9223372036854775808 == 1) = some (decide (9223372036854775808 ≤ v))
        congr 1
        rw [Bool.eq_iff_iff]
        simp only [beq_iff_eq, decide_eq_true_eq]
        omega
    rw [htop, spec_mask_at hw]
    obtain ⟨n, rfl⟩ := Int.eq_ofNat_of_zero_le h0
    unfold sgn
    simp only [Option.bind_some, decide_eq_true_eq]
    by_cases ht : (2 : Int) ^ (w.toNat - 1) ≤ (n : Int)
    · rw [if_pos ht, if_neg (by omega)]
      congr 1
      rcases wB_cases hw with rfl | rfl | rfl | rfl | rfl
      · have hv' : (n : Int) < 2 := hv
        rw [show Go.bits .xor .u64 18446744073709551615 (2 ^ ((1 : Int)).toNat - 1) = ((18446744073709551614 : Nat) : Int) from by decide +kernel, u64_or_nat n 18446744073709551614 (by omega) (by omega), show (18446744073709551614 : Nat) = 2 ^ 64 - 2 ^ 1 from by decide +kernel, pl_or n 1 (by show n < 2; omega) (by omega)]
        show wrap64 (((n + 18446744073709551614 : Nat)) : Int) = (n : Int) - 2
        have ht' : (1 : Int) ≤ (n : Int) := ht
        unfold wrap64
        omega
      · have hv' : (n : Int) < 256 := hv
        rw [show Go.bits .xor .u64 18446744073709551615 (2 ^ ((8 : Int)).toNat - 1) = ((18446744073709551360 : Nat) : Int) from by decide +kernel, u64_or_nat n 18446744073709551360 (by omega) (by omega), show (18446744073709551360 : Nat) = 2 ^ 64 - 2 ^ 8 from by decide +kernel, pl_or n 8 (by show n < 256; omega) (by omega)]
        show wrap64 (((n + 18446744073709551360 : Nat)) : Int) = (n : Int) - 256
        have ht' : (128 : Int) ≤ (n : Int) := ht
        unfold wrap64
        omega
      · have hv' : (n : Int) < 65536 := hv
        rw [show Go.bits .xor .u64 18446744073709551615 (2 ^ ((16 : Int)).toNat - 1) = ((18446744073709486080 : Nat) : Int) from by decide +kernel, u64_or_nat n 18446744073709486080 (by omega) (by omega), show (18446744073709486080 : Nat) = 2 ^ 64 - 2 ^ 16 from by decide +kernel, pl_or n 16 (by show n < 65536; omega) (by omega)]
        show wrap64 (((n + 18446744073709486080 : Nat)) : Int) = (n : Int) - 65536
        have ht' : (32768 : Int) ≤ (n : Int) := ht
        unfold wrap64
        omega
      · have hv' : (n : Int) < 4294967296 := hv
        rw [show Go.bits .xor .u64 18446744073709551615 (2 ^ ((32 : Int)).toNat - 1) = ((18446744069414584320 : Nat) : Int) from by decide +kernel, u64_or_nat n 18446744069414584320 (by omega) (by omega), show (18446744069414584320 : Nat) = 2 ^ 64 - 2 ^ 32 from by decide +kernel, pl_or n 32 (by show n < 4294967296; omega) (by omega)]
        show wrap64 (((n + 18446744069414584320 : Nat)) : Int) = (n : Int) - 4294967296
        have ht' : (2147483648 : Int) ≤ (n : Int) := ht
        unfold wrap64
        omega
      · have hv' : (n : Int) < 18446744073709551616 := hv
        rw [show Go.bits .xor .u64 18446744073709551615 (2 ^ ((64 : Int)).toNat - 1) = ((0 : Nat) : Int) from by decide +kernel, u64_or_nat n 0 (by omega) (by omega), show (0 : Nat) = 2 ^ 64 - 2 ^ 64 from by decide +kernel, pl_or n 64 (by show n < 18446744073709551616; omega) (by omega)]
        show wrap64 (((n + 0 : Nat)) : Int) = (n : Int) - 18446744073709551616
        have ht' : (9223372036854775808 : Int) ≤ (n : Int) := ht
        unfold wrap64
        omega
    · rw [if_neg ht, if_pos (by omega)]
      congr 1
      rcases wB_cases hw with rfl | rfl | rfl | rfl | rfl
      · have ht' : ¬ (1 : Int) ≤ (n : Int) := ht
        unfold wrap64
        omega
      · have ht' : ¬ (128 : Int) ≤ (n : Int) := ht
        unfold wrap64
        omega
      · have ht' : ¬ (32768 : Int) ≤ (n : Int) := ht
        unfold wrap64
        omega
      · have ht' : ¬ (2147483648 : Int) ≤ (n : Int) := ht
        unfold wrap64
        omega
      · have ht' : ¬ (9223372036854775808 : Int) ≤ (n : Int) := ht
        unfold wrap64
        omega

/-! eight bytes make an instruction -/
def dW (b4 b5 b6 b7 : Int) : Int := b4 + b5 * 256 + b6 * 65536 + b7 * 16777216
def dS (b4 b5 b6 b7 : Int) : Int := if dW b4 b5 b6 b7 < 2147483648 then dW b4 b5 b6 b7 else dW b4 b5 b6 b7 - 4294967296
theorem join64 {x b : Int} (hx : 0 ≤ x ∧ x < 4294967296) (hb : 0 ≤ b ∧ b < 256) : Go.bits .or .u64 (IntKind.u64.wrap (x * 256)) (IntKind.u64.wrap b) = x * 256 + b := by
  rw [IntKind.wrap_u64, IntKind.wrap_u64, Int.emod_eq_of_lt (by omega) (by omega), Int.emod_eq_of_lt (by omega) (by omega)]
  obtain ⟨n, rfl⟩ := Int.eq_ofNat_of_zero_le hx.1
  obtain ⟨m, rfl⟩ := Int.eq_ofNat_of_zero_le hb.1
  rw [show (n : Int) * 256 = ((n * 256 : Nat) : Int) by omega, u64_or_nat _ _ (by omega) (by omega), nat_join 8 (n * 256) m (by omega) (by omega)]
  omega
theorem join32 {x b : Int} (s : Nat) (hs : s ≤ 24) (hx : 0 ≤ x ∧ x < ((2 ^ s : Nat) : Int)) (hb : 0 ≤ b ∧ b < 256) : Go.bits .or .u32 x (((b % 4294967296) * ((2 ^ s : Nat) : Int)) % 4294967296) = x + b * ((2 ^ s : Nat) : Int) := by
  have p : (2 : Nat) ^ s ≤ 2 ^ 24 := Nat.pow_le_pow_right (by omega) hs
  obtain ⟨n, rfl⟩ := Int.eq_ofNat_of_zero_le hx.1
  obtain ⟨m, rfl⟩ := Int.eq_ofNat_of_zero_le hb.1
  have hm : m * 2 ^ s ≤ 255 * 2 ^ s := Nat.mul_le_mul_right _ (by omega)
  have e1 : ((m : Int) % 4294967296) = (m : Int) := Int.emod_eq_of_lt (by omega) (by omega)
  have e2 : (m : Int) * ((2 ^ s : Nat) : Int) = ((m * 2 ^ s : Nat) : Int) := (Int.natCast_mul _ _).symm
  have e3 : ((m * 2 ^ s : Nat) : Int) % 4294967296 = ((m * 2 ^ s : Nat) : Int) := Int.emod_eq_of_lt (by omega) (by omega)
  rw [e1, e2, e3, u32_or_nat _ _ (by omega) (by omega), Nat.or_comm, nat_join s (m * 2 ^ s) n (by simp) (by omega)]
  omega
section
variable (b0 b1 b2 b3 b4 b5 b6 b7 : Int) (h0 : 0 ≤ b0 ∧ b0 < 256) (h1 : 0 ≤ b1 ∧ b1 < 256) (h2 : 0 ≤ b2 ∧ b2 < 256) (h3 : 0 ≤ b3 ∧ b3 < 256) (h4 : 0 ≤ b4 ∧ b4 < 256) (h5 : 0 ≤ b5 ∧ b5 < 256) (h6 : 0 ≤ b6 ∧ b6 < 256) (h7 : 0 ≤ b7 ∧ b7 < 256)
include h0 h1 h2 h3 h4 h5 h6 h7
theorem spec_decode_ev : Ev (fun k => spec_l16Decode.f k [b0, b1, b2, b3, b4, b5, b6, b7]) (b0, b1, b2, b3, dS b4 b5 b6 b7) := by
  unfold spec_l16Decode.f
  have e7 := join64 (x := 0) (b := b7) (by omega) h7
  have e6 := join64 (x := 0 * 256 + b7) (b := b6) (by omega) h6
  have e5 := join64 (x := (0 * 256 + b7) * 256 + b6) (b := b5) (by omega) h5
  have e4 := join64 (x := ((0 * 256 + b7) * 256 + b6) * 256 + b5) (b := b4) (by omega) h4
  have st : ∀ (x i j b : Int), i ≥ 4 → i < 8 → rd [b0, b1, b2, b3, b4, b5, b6, b7] i = b → wrap64 (i - 1) = j → ∀ r, Ev (fun k => spec_l16Decode.l0 k [b0, b1, b2, b3, b4, b5, b6, b7] (Go.bits .or .u64 (IntKind.u64.wrap (x * 256)) (IntKind.u64.wrap b)) j) r → Ev (fun k => spec_l16Decode.l0 k [b0, b1, b2, b3, b4, b5, b6, b7] x i) r := by
    intro x i j b hi hi8 hb hj r h
    refine Ev.step (fun k => ?_) h
    simp only [spec_l16Decode.l0, hb, hj]
    rw [if_pos hi, if_pos (by omega), if_pos (by simp only [List.length_cons, List.length_nil]; omega)]
  refine st 0 7 6 b7 (by omega) (by omega) rfl (by decide +kernel) _ ?_
  rw [e7]
  refine st _ 6 5 b6 (by omega) (by omega) rfl (by decide +kernel) _ ?_
  rw [e6]
  refine st _ 5 4 b5 (by omega) (by omega) rfl (by decide +kernel) _ ?_
  rw [e5]
  refine st _ 4 3 b4 (by omega) (by omega) rfl (by decide +kernel) _ ?_
  rw [e4]
  have hw : (((0 * 256 + b7) * 256 + b6) * 256 + b5) * 256 + b4 = dW b4 b5 b6 b7 := by
    unfold dW
    omega
  rw [hw]
  have hd : 0 ≤ dW b4 b5 b6 b7 ∧ dW b4 b5 b6 b7 < 4294967296 := by
    unfold dW
    omega
  have hs : spec_Signed.f 32 (dW b4 b5 b6 b7) = some (dS b4 b5 b6 b7) := by
    rw [spec_signed_at 32 _ hd.1 (by omega)]
    have : isB 32 (dW b4 b5 b6 b7) = true := by
      unfold isB wB
      have : decide (dW b4 b5 b6 b7 < 2 ^ (32 : Int).toNat) = true := decide_eq_true (by
        rw [show (2 : Int) ^ (32 : Int).toNat = 4294967296 by decide]
        exact hd.2)
      rw [this]
      rfl
    rw [if_pos this]
    unfold sgn dS
    rw [show (2 : Int) ^ ((32 : Int).toNat - 1) = 2147483648 by decide, show (2 : Int) ^ (32 : Int).toNat = 4294967296 by decide]
  refine Ev.step (f := fun _ => some (b0, b1, b2, b3, dS b4 b5 b6 b7)) (fun k => ?_) (Ev.now _)
  simp only [spec_l16Decode.l0, hs]
  rw [if_neg (by omega), if_pos (by simp only [List.length_cons, List.length_nil]; omega), if_pos (by simp only [List.length_cons, List.length_nil]; omega), if_pos (by simp only [List.length_cons, List.length_nil]; omega), if_pos (by simp only [List.length_cons, List.length_nil]; omega)]
  simp only [Option.bind_some]
  rw [show rd [b0, b1, b2, b3, b4, b5, b6, b7] 0 = b0 from rfl, show rd [b0, b1, b2, b3, b4, b5, b6, b7] 1 = b1 from rfl, show rd [b0, b1, b2, b3, b4, b5, b6, b7] 2 = b2 from rfl, show rd [b0, b1, b2, b3, b4, b5, b6, b7] 3 = b3 from rfl, wrap64_id (x := b0) (by omega) (by omega), wrap64_id (x := b1) (by omega) (by omega), wrap64_id (x := b2) (by omega) (by omega), wrap64_id (x := b3) (by omega) (by omega)]
theorem impl_word : wrap64 (wrap32 (Go.bits .or .u32 (Go.bits .or .u32 (Go.bits .or .u32 (b4 % 4294967296) (((b5 % 4294967296) * 256) % 4294967296)) (((b6 % 4294967296) * 65536) % 4294967296)) (((b7 % 4294967296) * 16777216) % 4294967296))) = dS b4 b5 b6 b7 := by
  have e5 := join32 (x := b4) (b := b5) 8 (by omega) (by omega) h5
  have e6 := join32 (x := b4 + b5 * 256) (b := b6) 16 (by omega) (by omega) h6
  have e7 := join32 (x := b4 + b5 * 256 + b6 * 65536) (b := b7) 24 (by omega) (by omega) h7
  simp only [Nat.reducePow] at e5 e6 e7
  have c : ∀ n : Nat, ((n : Nat) : Int) = (n : Int) := fun _ => rfl
  rw [Int.emod_eq_of_lt (a := b4) (by omega) (by omega)]
  rw [show ((256 : Nat) : Int) = 256 from rfl] at e5
  rw [show ((65536 : Nat) : Int) = 65536 from rfl] at e6
  rw [show ((16777216 : Nat) : Int) = 16777216 from rfl] at e7
  rw [e5, e6, e7]
  unfold wrap64 wrap32 dS dW
  split <;> omega
end

def decR (l : List Int) : Bool × Int × Int × Int × Int × Int := match l with
  | [b0, b1, b2, b3, b4, b5, b6, b7] => if goodI b0 b1 b2 b3 (dS b4 b5 b6 b7) = true then (true, b0, b1, b2, b3, dS b4 b5 b6 b7) else (false, 0, 0, 0, 0, 0)
  | _ => (false, 0, 0, 0, 0, 0)
theorem impl_ins_ev (op a b c m : Int) : Ev (fun k => impl_InsFault.f k op a b c m) (!goodI op a b c m) := Ev.of (fun k => impl_InsFault.mono op a b c m k) (impl_ins_at op a b c m)
theorem impl_decode_ev (l : List Int) (hB : ∀ y ∈ l, 0 ≤ y ∧ y < 256) : Ev (fun k => impl_DecodeIns.f k l) (decR l) := by
  by_cases h : (l.length : Int) = 8
  · obtain ⟨b0, b1, b2, b3, b4, b5, b6, b7, rfl⟩ : ∃ b0 b1 b2 b3 b4 b5 b6 b7, l = [b0, b1, b2, b3, b4, b5, b6, b7] := by
      have hl : l.length = 8 := by omega
      match l, hl with
      | [b0, b1, b2, b3, b4, b5, b6, b7], _ => exact ⟨b0, b1, b2, b3, b4, b5, b6, b7, rfl⟩
    have g0 := hB b0 (by simp)
    have g1 := hB b1 (by simp)
    have g2 := hB b2 (by simp)
    have g3 := hB b3 (by simp)
    have g4 := hB b4 (by simp)
    have g5 := hB b5 (by simp)
    have g6 := hB b6 (by simp)
    have g7 := hB b7 (by simp)
    have hw := impl_word b0 b1 b2 b3 b4 b5 b6 b7 g0 g1 g2 g3 g4 g5 g6 g7
    have ii := impl_ins_ev b0 b1 b2 b3 (dS b4 b5 b6 b7)
    unfold impl_DecodeIns.f decR
    have r0 : rd [b0, b1, b2, b3, b4, b5, b6, b7] 0 = b0 := rfl
    have r1 : rd [b0, b1, b2, b3, b4, b5, b6, b7] 1 = b1 := rfl
    have r2 : rd [b0, b1, b2, b3, b4, b5, b6, b7] 2 = b2 := rfl
    have r3 : rd [b0, b1, b2, b3, b4, b5, b6, b7] 3 = b3 := rfl
    have r4 : rd [b0, b1, b2, b3, b4, b5, b6, b7] 4 = b4 := rfl
    have r5 : rd [b0, b1, b2, b3, b4, b5, b6, b7] 5 = b5 := rfl
    have r6 : rd [b0, b1, b2, b3, b4, b5, b6, b7] 6 = b6 := rfl
    have r7 : rd [b0, b1, b2, b3, b4, b5, b6, b7] 7 = b7 := rfl
    have w0 : wrap64 b0 = b0 := wrap64_id (by omega) (by omega)
    have w1 : wrap64 b1 = b1 := wrap64_id (by omega) (by omega)
    have w2 : wrap64 b2 = b2 := wrap64_id (by omega) (by omega)
    have w3 : wrap64 b3 = b3 := wrap64_id (by omega) (by omega)
    simp only [r0, r1, r2, r3, r4, r5, r6, r7, w0, w1, w2, w3, hw]
    simp only [h, if_true, show (4 : Int) < 8 by decide, show (5 : Int) < 8 by decide, show (6 : Int) < 8 by decide, show (7 : Int) < 8 by decide, show (0 : Int) < 8 by decide, show (1 : Int) < 8 by decide, show (2 : Int) < 8 by decide, show (3 : Int) < 8 by decide]
    refine Ev.bind ii ?_
    cases goodI b0 b1 b2 b3 (dS b4 b5 b6 b7) with
    | false =>
      simp only [Bool.not_false, if_true, Bool.false_eq_true, if_false]
      exact Ev.now _
    | true =>
      simp only [Bool.not_true, Bool.false_eq_true, if_false, if_true]
      exact Ev.now _
  · have hr : decR l = (false, 0, 0, 0, 0, 0) := by
      unfold decR
      split
      · exact absurd rfl h
      · rfl
    rw [hr]
    unfold impl_DecodeIns.f
    simp only [if_neg h]
    exact Ev.now _

theorem impl_vw (w : Int) : impl_ValidWidth.f w = some (wB w) := by
  by_cases h1 : w = 1
  · subst h1
    rfl
  by_cases h8 : w = 8
  · subst h8
    rfl
  by_cases h16 : w = 16
  · subst h16
    rfl
  by_cases h32 : w = 32
  · subst h32
    rfl
  have e1 : (w == 1) = false := by simpa using h1
  have e8 : (w == 8) = false := by simpa using h8
  have e16 : (w == 16) = false := by simpa using h16
  have e32 : (w == 32) = false := by simpa using h32
  simp only [impl_ValidWidth.f, if_neg h1, if_neg h8, if_neg h16, if_neg h32, wB, e1, e8, e16, e32, Bool.false_or]
def vtB (w : Int) : Bool := if wB w = true then true else w == 65
theorem spec_vt (w : Int) : spec_ValidType.f w = some (vtB w) := by
  unfold spec_ValidType.f vtB
  rw [spec_vw]
  simp only [Option.bind_some]
  split <;> rfl
theorem impl_vt (w : Int) : impl_ValidType.f w = some (vtB w) := by
  unfold impl_ValidType.f vtB
  rw [impl_vw]
  simp only [Option.bind_some]
  split <;> rfl
section
variable (code data : List Int) (entry : Int) (params : List Int) (result : Int) (syms : List S95)
/-- The parameters' widths. -/
theorem image_params (hp : params.length ≤ 1048576) : ∀ (d i : Nat), i + d = params.length → ∃ r, Ev (fun k => spec_ImageFault.l1 k (i : Int) code data entry params result syms) r ∧ Ev (fun k => impl_ImageFault.l1 k params (params.length : Int) (i : Int)) r := by
  intro d
  induction d with
  | zero =>
    intro i hi
    refine ⟨0, Ev.step (f := fun _ => some 0) (fun k => ?_) (Ev.now _), Ev.step (f := fun _ => some 0) (fun k => ?_) (Ev.now _)⟩
    · simp only [spec_ImageFault.l1]
      rw [if_neg (by omega)]
    · simp only [impl_ImageFault.l1]
      rw [if_neg (by omega)]
  | succ d ih =>
    intro i hi
    have hlt : i < params.length := by omega
    obtain ⟨r, e1, e2⟩ := ih (i + 1) (by omega)
    have p1 : (i : Int) < (params.length : Int) := by omega
    have p2 : (0 : Int) ≤ (i : Int) := by omega
    have nx := wrap64_next hlt (by omega)
    cases hw : wB params[i] with
    | true =>
      refine ⟨r, Ev.step (fun k => ?_) e1, Ev.step (fun k => ?_) e2⟩
      · simp only [spec_ImageFault.l1, rd_at hlt, spec_vw, hw, if_pos p1, if_pos p2, Option.bind_some, if_true, nx]
      · simp only [impl_ImageFault.l1, rd_at hlt, impl_vw, hw, if_pos p1, if_pos p2, Option.bind_some, if_true, nx]
    | false =>
      refine ⟨5, Ev.step (f := fun _ => some 5) (fun k => ?_) (Ev.now _), Ev.step (f := fun _ => some 5) (fun k => ?_) (Ev.now _)⟩
      · simp only [spec_ImageFault.l1, rd_at hlt, spec_vw, hw, if_pos p1, if_pos p2, Option.bind_some, Bool.false_eq_true, if_false]
      · simp only [impl_ImageFault.l1, rd_at hlt, impl_vw, hw, if_pos p1, if_pos p2, Option.bind_some, Bool.false_eq_true, if_false]
theorem image_j3 (hp : params.length ≤ 1048576) (b : Bool) : ∃ r, Ev (fun k => spec_ImageFault.j3 k b code data entry params result syms) r ∧ Ev (fun k => impl_ImageFault.j3 k b code data entry params result syms) r := by
  cases b with
  | true =>
    refine ⟨5, Ev.step (f := fun _ => some 5) (fun k => ?_) (Ev.now _), Ev.step (f := fun _ => some 5) (fun k => ?_) (Ev.now _)⟩
    · simp only [spec_ImageFault.j3, if_true]
    · simp only [impl_ImageFault.j3, if_true]
  | false =>
    obtain ⟨r, e1, e2⟩ := image_params code data entry params result syms hp params.length 0 (by omega)
    refine ⟨r, Ev.step (fun k => ?_) e1, Ev.step (fun k => ?_) e2⟩
    · simp only [spec_ImageFault.j3, Bool.false_eq_true, if_false]
      rfl
    · simp only [impl_ImageFault.j3, Bool.false_eq_true, if_false]
      rfl
theorem image_j2 (hp : params.length ≤ 1048576) (b : Bool) : ∃ r, Ev (fun k => spec_ImageFault.j2 k b code data entry params result syms) r ∧ Ev (fun k => impl_ImageFault.j2 k b code data entry params result syms) r := by
  cases b with
  | true =>
    refine ⟨4, Ev.step (f := fun _ => some 4) (fun k => ?_) (Ev.now _), Ev.step (f := fun _ => some 4) (fun k => ?_) (Ev.now _)⟩
    · simp only [spec_ImageFault.j2, if_true]
    · simp only [impl_ImageFault.j2, if_true]
  | false =>
    obtain ⟨t, ht⟩ : ∃ t : Bool, t = (if (params.length : Int) > 6 then true else if result = 0 then false else !vtB result) := ⟨_, rfl⟩
    obtain ⟨r, e1, e2⟩ := image_j3 code data entry params result syms hp t
    refine ⟨r, Ev.step (fun k => ?_) e1, Ev.step (fun k => ?_) e2⟩
    · simp only [spec_ImageFault.j2, Bool.false_eq_true, if_false, spec_vt, Option.bind_some, ht]
      split
      · rfl
      · split <;> rfl
    · simp only [impl_ImageFault.j2, Bool.false_eq_true, if_false, impl_vt, Option.bind_some, ht]
      split
      · rfl
      · split <;> rfl
/-- The code, eight bytes a round, and what comes behind it. -/
theorem image_code (hB : ∀ y ∈ code, 0 ≤ y ∧ y < 256) (hc : code.length ≤ 4194304) (hp : params.length ≤ 1048576) :
    ∀ (d i : Nat), i + 8 * d = code.length → ∃ r, Ev (fun k => spec_ImageFault.l0 k (i : Int) code data entry params result syms) r ∧ Ev (fun k => impl_ImageFault.l0 k (i : Int) code data entry params result syms) r := by
  intro d
  induction d with
  | zero =>
    intro i hi
    have n0 : ¬ (i : Int) < (code.length : Int) := by omega
    by_cases h3 : (data.length : Int) > 1048576
    · refine ⟨3, Ev.step (f := fun _ => some 3) (fun k => ?_) (Ev.now _), Ev.step (f := fun _ => some 3) (fun k => ?_) (Ev.now _)⟩
      · simp only [spec_ImageFault.l0, if_neg n0, if_pos h3]
      · simp only [impl_ImageFault.l0, if_neg n0, if_pos h3]
    obtain ⟨t, ht⟩ : ∃ t : Bool, t = (if entry < 0 then true else decide (entry ≥ (wrap64 ((code.length : Int) / 8)))) := ⟨_, rfl⟩
    obtain ⟨r, e1, e2⟩ := image_j2 code data entry params result syms hp t
    refine ⟨r, Ev.step (fun k => ?_) e1, Ev.step (fun k => ?_) e2⟩
    · simp only [spec_ImageFault.l0, if_neg n0, if_neg h3, ht]
      split <;> rfl
    · simp only [impl_ImageFault.l0, if_neg n0, if_neg h3, ht]
      split <;> rfl
  | succ d ih =>
    intro i hi
    obtain ⟨r, e1, e2⟩ := ih (i + 8) (by omega)
    have p1 : (i : Int) < (code.length : Int) := by omega
    have p2 : (0 : Int) ≤ (i : Int) := by omega
    have p3 : (i : Int) ≤ ((i + 8 : Nat) : Int) := by omega
    have p4 : ((i + 8 : Nat) : Int) ≤ (code.length : Int) := by omega
    obtain ⟨s, hs⟩ : ∃ s, s = (code.take (((i + 8 : Nat) : Int)).toNat).drop ((i : Int)).toNat := ⟨_, rfl⟩
    have hl : s.length = 8 := by
      rw [hs, List.length_drop, List.length_take]
      omega
    have hsB : ∀ y ∈ s, 0 ≤ y ∧ y < 256 := fun y hy => hB y (by
      rw [hs] at hy
      exact List.mem_of_mem_take (List.mem_of_mem_drop hy))
    have ii := impl_decode_ev s hsB
    have nx : wrap64 ((i : Int) + 8) = ((i + 8 : Nat) : Int) := by
      unfold wrap64
      omega
    obtain ⟨b0, b1, b2, b3, b4, b5, b6, b7, rfl⟩ : ∃ b0 b1 b2 b3 b4 b5 b6 b7, s = [b0, b1, b2, b3, b4, b5, b6, b7] := by
      match s, hl with
      | [b0, b1, b2, b3, b4, b5, b6, b7], _ => exact ⟨b0, b1, b2, b3, b4, b5, b6, b7, rfl⟩
    have g0 := hsB b0 (by simp)
    have g1 := hsB b1 (by simp)
    have g2 := hsB b2 (by simp)
    have g3 := hsB b3 (by simp)
    have g4 := hsB b4 (by simp)
    have g5 := hsB b5 (by simp)
    have g6 := hsB b6 (by simp)
    have g7 := hsB b7 (by simp)
    have hd := spec_decode_ev b0 b1 b2 b3 b4 b5 b6 b7 g0 g1 g2 g3 g4 g5 g6 g7
    have bd : -9223372036854775808 ≤ b0 ∧ b0 ≤ 9223372036854775807 := ⟨Int.le_trans (by decide) g0.1, Int.le_trans (Int.le_of_lt g0.2) (by decide)⟩
    have si := spec_ins_ev b0 b1 b2 b3 (dS b4 b5 b6 b7) bd
    have s0 : ∀ q, Ev (fun k => if (!goodI b0 b1 b2 b3 (dS b4 b5 b6 b7)) = true then some 2 else spec_ImageFault.l0 k ((i + 8 : Nat) : Int) code data entry params result syms) q → Ev (fun k => spec_ImageFault.l0 k (i : Int) code data entry params result syms) q := by
      intro q h
      refine Ev.step (fun k => ?_) (Ev.bind (f := fun k bt => (spec_InsFault.f k bt.1 bt.2.1 bt.2.2.1 bt.2.2.2.1 bt.2.2.2.2).bind fun t => if t = true then some 2 else spec_ImageFault.l0 k ((i + 8 : Nat) : Int) code data entry params result syms) hd (Ev.bind (f := fun k t => if t = true then some 2 else spec_ImageFault.l0 k ((i + 8 : Nat) : Int) code data entry params result syms) si h))
      simp only [spec_ImageFault.l0, nx, if_pos p1, if_pos p2, if_pos p3, if_pos p4, ← hs]
    have i0 : ∀ q, Ev (fun k => if (decR [b0, b1, b2, b3, b4, b5, b6, b7]).1 = true then impl_ImageFault.l0 k ((i + 8 : Nat) : Int) code data entry params result syms else some 2) q → Ev (fun k => impl_ImageFault.l0 k (i : Int) code data entry params result syms) q := by
      intro q h
      refine Ev.step (fun k => ?_) (Ev.bind (f := fun k bt => if bt.1 = true then impl_ImageFault.l0 k ((i + 8 : Nat) : Int) code data entry params result syms else some 2) ii h)
      simp only [impl_ImageFault.l0, nx, if_pos p1, if_pos p2, if_pos p3, if_pos p4, ← hs]
    unfold decR at i0
    cases hg : goodI b0 b1 b2 b3 (dS b4 b5 b6 b7) with
    | true =>
      simp only [hg, Bool.not_true, Bool.false_eq_true, if_false, if_true] at s0 i0
      exact ⟨r, s0 r e1, i0 r e2⟩
    | false =>
      simp only [hg, Bool.not_false, Bool.false_eq_true, if_false, if_true] at s0 i0
      exact ⟨2, s0 2 (Ev.now _), i0 2 (Ev.now _)⟩
theorem image_ev (hB : ∀ y ∈ code, 0 ≤ y ∧ y < 256) (hp : params.length ≤ 1048576) (hc : code.length ≤ 1048576) :
    ∃ r, Ev (fun k => spec_ImageFault.f k code data entry params result syms) r ∧ Ev (fun k => impl_ImageFault.f k code data entry params result syms) r := by
  have st : Ev (fun k => spec_ImageFault.j0 k true code data entry params result syms) 1 := Ev.step (f := fun _ => some 1) (fun k => by simp only [spec_ImageFault.j0, if_true]) (Ev.now _)
  have it : Ev (fun k => impl_ImageFault.j0 k true code data entry params result syms) 1 := Ev.step (f := fun _ => some 1) (fun k => by simp only [impl_ImageFault.j0, if_true]) (Ev.now _)
  unfold spec_ImageFault.f impl_ImageFault.f
  by_cases h0 : (code.length : Int) = 0
  · refine ⟨1, ?_, ?_⟩
    · have h8 : (code.length : Int) % 8 = 0 := by omega
      simp only [if_pos h8, if_pos h0]
      exact st
    · simp only [if_pos h0]
      exact it
  by_cases h8 : (code.length : Int) % 8 = 0
  · have hf : decide ((code.length : Int) > 4194304) = false := decide_eq_false (by omega)
    simp only [if_pos h8, if_neg h0, hf]
    obtain ⟨r, e1, e2⟩ := image_code code data entry params result syms hB (by omega) hp (code.length / 8) 0 (by omega)
    refine ⟨r, Ev.step (fun k => ?_) e1, Ev.step (fun k => ?_) e2⟩
    · simp only [spec_ImageFault.j0, Bool.false_eq_true, if_false]
      rfl
    · simp only [impl_ImageFault.j0, Bool.false_eq_true, if_false]
      rfl
  · simp only [if_neg h8, if_neg h0]
    exact ⟨1, st, it⟩
end
/-! the image's copy, measure and comparison -/
theorem rd_T92_at {xs : List S92} {i : Nat} (h : i < xs.length) : rd_T92 xs (i : Int) = xs[i] := by
  unfold rd_T92
  exact getD_at h _
theorem rd_T95_at {xs : List S95} {i : Nat} (h : i < xs.length) : rd_T95 xs (i : Int) = xs[i] := by
  unfold rd_T95
  exact getD_at h _
def cvS (x : S92) : S95 := ⟨x.f0, x.f1, x.f2⟩
theorem laws_toImageSymbolS_ev (l : List S92) (hl : l.length ≤ 1048576) : Ev (fun k => laws_toImageSymbolS.f k l) (l.map cvS) := by
  have := copy_loop (fun k ys i => laws_toImageSymbolS.l0 k l ys i) l cvS (fun k ys => by simp only [laws_toImageSymbolS.l0]; rw [if_neg (by omega)])
    (fun i hi ys hy r h => by
      refine Ev.step (f := fun k => laws_toImageSymbolS.l0 k l (ys.set i (cvS l[i])) ((i + 1 : Nat) : Int)) (fun k => ?_) h
      simp only [laws_toImageSymbolS.l0, laws_toImageSymbol.f, Option.bind_some]
      rw [if_pos (by omega), if_pos (by omega), if_pos (by omega), rd_T92_at hi, wrap64_next hi (by omega)]
      rfl) (List.replicate ((l.length : Int)).toNat z95) (by simp)
  refine Ev.congr (fun k => ?_) this
  unfold laws_toImageSymbolS.f
  rw [if_pos (by omega), if_pos (by omega)]
theorem laws_eqImageSymbolS_ev (l : List S95) (hl : l.length ≤ 1048576) : Ev (fun k => laws_eqImageSymbolS.f k l l) true := by
  have := eq_loop (fun k i => laws_eqImageSymbolS.l0 k l l i) l.length (fun k => by simp only [laws_eqImageSymbolS.l0]; rw [if_neg (by omega)])
    (fun i hi h => by
      refine Ev.step (f := fun k => laws_eqImageSymbolS.l0 k l l ((i + 1 : Nat) : Int)) (fun k => ?_) h
      simp only [laws_eqImageSymbolS.l0, laws_eqImageSymbol.f, if_true, bne_self_eq_false, Bool.false_eq_true, if_false, Option.bind_some]
      rw [if_pos (by omega), if_pos (by omega), if_pos (by omega), wrap64_next hi (by omega)])
  refine Ev.congr (fun k => ?_) this
  unfold laws_eqImageSymbolS.f
  rw [if_pos rfl]
theorem laws_szImageSymbolS_ev (l : List S92) (hq : ∀ y ∈ l, y.f0.size ≤ 9223372036854775807) (hl : l.length ≤ 9223372036854775807) (left : Int) (h0 : 0 ≤ left) (h1 : left ≤ 1048576) :
    ∃ r, r ≤ left ∧ -1 ≤ r ∧ Ev (fun k => laws_szImageSymbolS.f k l left) r ∧ (0 ≤ r → l.length ≤ 1048576) := by
  unfold laws_szImageSymbolS.f
  rw [wrap64_id (x := left - (l.length : Int)) (by omega) (by omega)]
  by_cases hn : left - (l.length : Int) < 0
  · simp only [if_pos hn]
    exact ⟨-1, by omega, by omega, Ev.now _, fun h => by omega⟩
  simp only [if_neg hn]
  obtain ⟨r, a, b, c, _⟩ := sz_loop (fun k left i => laws_szImageSymbolS.l0 k l left i) l (fun _ => True) (fun k left => by simp only [laws_szImageSymbolS.l0]; rw [if_neg (by omega)])
    (fun i hi left g0 g1 => by
      have hs := hq l[i] (List.getElem_mem hi)
      have hf : laws_szImageSymbol.f l[i].f0 l[i].f1 l[i].f2 left = some (if left - (l[i].f0.size : Int) < 0 then -1 else left - (l[i].f0.size : Int)) := by
        unfold laws_szImageSymbol.f
        rw [wrap64_id (by omega) (by omega)]
        split <;> rfl
      have p1 : (i : Int) < (l.length : Int) := by omega
      have p2 : (0 : Int) ≤ (i : Int) := by omega
      have nx := wrap64_next hi (by omega)
      refine ⟨(if left - (l[i].f0.size : Int) < 0 then -1 else left - (l[i].f0.size : Int)), by split <;> omega, fun h => ?_, fun h => ⟨trivial, fun q e => ?_⟩⟩
      · refine Ev.step (f := fun _ => some (-1)) (fun k => ?_) (Ev.now _)
        simp only [laws_szImageSymbolS.l0, if_pos p1, if_pos p2, rd_T92_at hi, hf, Option.bind_some, if_pos h]
      · refine Ev.step (fun k => ?_) e
        simp only [laws_szImageSymbolS.l0, if_pos p1, if_pos p2, rd_T92_at hi, hf, Option.bind_some, if_neg (show ¬ _ < (0 : Int) from Int.not_lt.2 h), nx]) (left - (l.length : Int)) (by omega) (by omega)
  exact ⟨r, by omega, b, c, fun _ => by omega⟩

theorem FnExactImageFault : laws_FnExactImageFault.Pure := by
  intro code data entry params result syms hc hd _ hp _ hs
  obtain ⟨hc, hcB⟩ := hc
  obtain ⟨hd, _⟩ := hd
  obtain ⟨hp, _⟩ := hp
  obtain ⟨hs, hsq⟩ := hs
  simp only [maxLen] at hc hd hp hs
  have hB : ∀ y ∈ code, 0 ≤ y ∧ y < 256 := by
    intro y h
    have := hcB y h
    simp [Lit.wf, IntKind.min, IntKind.max, IntKind.signed, IntKind.bits] at this
    omega
  have sz : ∃ r, Ev (fun k => laws_szImage.f k code data entry params result syms 1048576) r ∧ (0 ≤ r → code.length ≤ 1048576 ∧ data.length ≤ 1048576 ∧ params.length ≤ 1048576 ∧ syms.length ≤ 1048576) := by
    unfold laws_szImage.f
    rw [laws_szByteS_at code 1048576 hc (by omega) (by omega)]
    simp only [Option.bind_some]
    by_cases c1 : (1048576 : Int) - (code.length : Int) < 0
    · simp only [if_pos c1, if_pos (show (-1 : Int) < 0 by omega)]
      exact ⟨-1, Ev.now _, fun h => by omega⟩
    simp only [if_neg c1]
    rw [laws_szByteS_at data _ hd (by omega) (by omega)]
    simp only [Option.bind_some]
    by_cases c2 : (1048576 : Int) - (code.length : Int) - (data.length : Int) < 0
    · simp only [if_pos c2, if_pos (show (-1 : Int) < 0 by omega)]
      exact ⟨-1, Ev.now _, fun h => by omega⟩
    simp only [if_neg c2]
    rw [laws_szInt64S_at params _ hp (by omega) (by omega)]
    simp only [Option.bind_some]
    by_cases c3 : (1048576 : Int) - (code.length : Int) - (data.length : Int) - (params.length : Int) < 0
    · simp only [if_pos c3, if_pos (show (-1 : Int) < 0 by omega)]
      exact ⟨-1, Ev.now _, fun h => by omega⟩
    simp only [if_neg c3]
    obtain ⟨r, a, b, e, f⟩ := laws_szImageSymbolS_ev syms (fun y hy => by have := (hsq y hy).1; simp only [maxLen] at this; exact this) hs _ (show (0 : Int) ≤ 1048576 - (code.length : Int) - (data.length : Int) - (params.length : Int) by omega) (by omega)
    refine ⟨r, Ev.bind e ?_, fun h => ⟨by omega, by omega, by omega, f h⟩⟩
    by_cases c4 : r < 0
    · simp only [if_pos c4]
      rw [show r = -1 by omega]
      exact Ev.now _
    · simp only [if_neg c4]
      exact Ev.now _
  obtain ⟨r, er, hr⟩ := sz
  unfold laws_FnExactImageFault.f
  refine Ev.rounds (Ev.bind er ?_)
  by_cases hn : r < 0
  · simp only [if_pos hn]
    exact Ev.now _
  simp only [if_neg hn]
  obtain ⟨l1, l2, l3, l4⟩ := hr (by omega)
  have tf : Ev (fun k => laws_toImage.f k code data entry params result syms) (code, data, entry, params, result, syms.map cvS) := by
    unfold laws_toImage.f
    exact Ev.bind (laws_toByteS_ev code l1) (Ev.bind (laws_toByteS_ev data l2) (Ev.bind (laws_toInt64S_ev params l3) (Ev.bind (laws_toImageSymbolS_ev syms l4) (Ev.now _))))
  obtain ⟨q, e1, e2⟩ := image_ev code data entry params result (syms.map cvS) hB l3 l1
  refine Ev.bind tf (Ev.bind e1 (Ev.bind tf (Ev.bind e2 ?_)))
  simp only [if_true]
  refine Ev.bind tf (Ev.bind (a := true) ?_ (Ev.now true))
  unfold laws_eqImage.f
  refine Ev.bind (laws_eqByteS_ev code (by omega)) ?_
  simp only [if_true]
  refine Ev.bind (laws_eqByteS_ev data (by omega)) ?_
  simp only [if_true]
  refine Ev.bind (laws_eqInt64S_ev params (by omega)) ?_
  simp only [if_true]
  refine Ev.bind (laws_eqImageSymbolS_ev (syms.map cvS) (by simpa using l4)) ?_
  simp only [if_true]
  exact Ev.now true

end Go.Proofs.Ytnogjankhacdpaa.Pure
