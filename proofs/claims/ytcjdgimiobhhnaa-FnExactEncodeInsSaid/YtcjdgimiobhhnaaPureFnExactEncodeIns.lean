/- Both programs write an instruction with the same bytes. -/
import Derived.Test.YtcjdgimiobhhnaaOpenFnExactEncodeIns
import Derived.Test.YtcjdgimiobhhnaaPlGen
import Derived.Test.YtcjdgimiobhhnaaPlIns
namespace Go.Proofs.Ytcjdgimiobhhnaa.Pure
open Go.RowKit Go.Proofs.Ytcjdgimiobhhnaa.QFnExactEncodeIns Go.Proofs.Ytcjdgimiobhhnaa.OpenFnExactEncodeIns Go.Proofs.YtcjdgimiobhhnaaW.PrintWords Go.Proofs.YtcjdgimiobhhnaaW.PrintLast Go.Proofs.YtcjdgimiobhhnaaW.PrintMore Go.Proofs.Ytcjdgimiobhhnaa.RowOpen Go.Proofs.Ytcjdgimiobhhnaa.PlGen Go.Proofs.Ytcjdgimiobhhnaa.PlIns
set_option linter.unusedSimpArgs false
set_option linter.unusedVariables false
set_option linter.unusedSectionVars false
set_option maxHeartbeats 4000000

theorem impl_reg_at (v : Int) : impl_reg.f v = some (rB v) := by
  unfold impl_reg.f rB
  by_cases h : v ≥ 0
  · rw [if_pos h]
    congr 1
    rw [Bool.eq_iff_iff]
    simp only [decide_eq_true_eq]
    omega
  · rw [if_neg h, decide_eq_false (by omega)]
theorem impl_pred_at (v : Int) : impl_pred.f v = some (pB v) := by
  unfold impl_pred.f pB
  by_cases h : v ≥ 1
  · rw [if_pos h]
    congr 1
    rw [Bool.eq_iff_iff]
    simp only [decide_eq_true_eq]
    omega
  · rw [if_neg h, decide_eq_false (by omega)]
theorem impl_Fits_at (v : Int) : impl_Fits.f v = some (fB v) := by
  unfold impl_Fits.f fB
  by_cases h : v ≥ -2147483648
  · rw [if_pos h]
    congr 1
    rw [Bool.eq_iff_iff]
    simp only [decide_eq_true_eq]
    omega
  · rw [if_neg h, decide_eq_false (by omega)]
theorem impl_bytesCount_at (v : Int) : impl_bytesCount.f v = some (nB v) := by
  unfold impl_bytesCount.f nB
  by_cases h1 : v = 1
  · rw [if_pos h1, decide_eq_true (by omega)]
  by_cases h2 : v = 2
  · rw [if_neg h1, if_pos h2, decide_eq_true (by omega)]
  by_cases h4 : v = 4
  · rw [if_neg h1, if_neg h2, if_pos h4, decide_eq_true (by omega)]
  rw [if_neg h1, if_neg h2, if_neg h4]
  congr 1
  rw [Bool.eq_iff_iff]
  simp only [beq_iff_eq, decide_eq_true_eq]
  omega
theorem impl_step (k : Nat) (u : ByteArray) (L : List Int) (i : Nat) (hu : u.size = 4) (hL : L.length = 4) (hi : i < 4) :
    impl_InsFault.l0 (k + 1) u L 4 (i : Int) = if okB (bt u (i : Int)) (rd L (i : Int)) = true then impl_InsFault.l0 k u L 4 ((i + 1 : Nat) : Int) else some true := by
  simp only [impl_InsFault.l0]
  rw [if_pos (by omega), if_pos (by omega), if_pos (by omega), if_pos (by omega), impl_reg_at, impl_pred_at, impl_bytesCount_at]
  have hw : wrap64 ((i : Int) + 1) = ((i + 1 : Nat) : Int) := by
    unfold wrap64
    omega
  rw [hw]
  simp only [Option.bind_some]
  unfold okB
  generalize impl_InsFault.l0 k u L 4 ((i + 1 : Nat) : Int) = z
  generalize bt u (i : Int) = ch
  generalize rd L (i : Int) = v
  by_cases c1 : ch = 114
  · simp only [if_pos c1]
  by_cases c2 : ch = 112
  · simp only [if_neg c1, if_pos c2]
  by_cases c3 : ch = 110
  · simp only [if_neg c1, if_neg c2, if_pos c3]
  by_cases c4 : ch = 119
  · simp only [if_neg c1, if_neg c2, if_neg c3, if_pos c4]
    unfold wdB
    simp only [decide_eq_true_eq]
    by_cases w1 : v = 1
    · rw [if_pos w1, if_pos (Or.inl w1)]
    by_cases w8 : v = 8
    · rw [if_neg w1, if_pos w8, if_pos (Or.inr (Or.inl w8))]
    by_cases w16 : v = 16
    · rw [if_neg w1, if_neg w8, if_pos w16, if_pos (Or.inr (Or.inr (Or.inl w16)))]
    by_cases w32 : v = 32
    · rw [if_neg w1, if_neg w8, if_neg w16, if_pos w32, if_pos (Or.inr (Or.inr (Or.inr w32)))]
    rw [if_neg w1, if_neg w8, if_neg w16, if_neg w32, if_neg (by omega)]
  by_cases c5 : ch = 45
  · simp only [if_neg c1, if_neg c2, if_neg c3, if_neg c4, if_pos c5]
    unfold zB
    simp only [decide_eq_true_eq]
  · simp only [if_neg c1, if_neg c2, if_neg c3, if_neg c4, if_neg c5, if_true]
theorem impl_loop (k : Nat) (u : ByteArray) (a b c m : Int) (hu : u.size = 4) :
    impl_InsFault.l0 (k + 5) u [a, b, c, m] 4 0 = some (!(okB (bt u 0) a && (okB (bt u 1) b && (okB (bt u 2) c && okB (bt u 3) m)))) := by
  have s0 := impl_step (k + 4) u [a, b, c, m] 0 hu rfl (by omega)
  have s1 := impl_step (k + 3) u [a, b, c, m] 1 hu rfl (by omega)
  have s2 := impl_step (k + 2) u [a, b, c, m] 2 hu rfl (by omega)
  have s3 := impl_step (k + 1) u [a, b, c, m] 3 hu rfl (by omega)
  have s4 : impl_InsFault.l0 (k + 1) u [a, b, c, m] 4 ((4 : Nat) : Int) = some false := by
    simp only [impl_InsFault.l0]
    rw [if_neg (by omega)]
  have r0 : rd [a, b, c, m] ((0 : Nat) : Int) = a := rfl
  have r1 : rd [a, b, c, m] ((1 : Nat) : Int) = b := rfl
  have r2 : rd [a, b, c, m] ((2 : Nat) : Int) = c := rfl
  have r3 : rd [a, b, c, m] ((3 : Nat) : Int) = m := rfl
  rw [r0] at s0
  rw [r1] at s1
  rw [r2] at s2
  rw [r3] at s3
  show impl_InsFault.l0 (k + 4 + 1) u [a, b, c, m] 4 ((0 : Nat) : Int) = _
  rw [s0, show (0 + 1 : Nat) = 1 from rfl, s1, show (1 + 1 : Nat) = 2 from rfl, s2, show (2 + 1 : Nat) = 3 from rfl, s3, show (3 + 1 : Nat) = 4 from rfl, s4]
  show (if okB (bt u 0) a = true then (if okB (bt u 1) b = true then (if okB (bt u 2) c = true then (if okB (bt u 3) m = true then some false else some true) else some true) else some true) else some true) = _
  cases okB (bt u 0) a <;> cases okB (bt u 1) b <;> cases okB (bt u 2) c <;> cases okB (bt u 3) m <;> rfl
theorem impl_uses_at (op : Int) : ∃ u : ByteArray, impl_uses.f 9 op = some u ∧ ((useL op = [] ∧ u = ⟨#[]⟩) ∨ (u.size = 4 ∧ useL op = [bt u 0, bt u 1, bt u 2, bt u 3])) := by
  rcases op_cases op with h | h | rfl | rfl | rfl | rfl | rfl | rfl | rfl | rfl | rfl | rfl | rfl | rfl | rfl | rfl | rfl | rfl | rfl | rfl | h
  · refine ⟨⟨#[114, 114, 114, 45]⟩, ?_, Or.inr ⟨rfl, ?_⟩⟩
    · unfold impl_uses.f
      rw [if_pos (by omega), decide_eq_true (by omega)]
      rfl
    · unfold useL
      rw [if_pos h]
      decide +kernel
  · refine ⟨⟨#[114, 114, 45, 105]⟩, ?_, Or.inr ⟨rfl, ?_⟩⟩
    · unfold impl_uses.f
      rw [if_pos (by omega), decide_eq_false (by omega)]
      simp only [impl_uses.j0, Bool.false_eq_true, if_false]
      rw [if_pos (by omega), if_pos (by omega)]
    · unfold useL
      rw [if_neg (by omega), if_pos h]
      decide +kernel
  iterate 18
    refine ⟨_, rfl, Or.inr ⟨rfl, ?_⟩⟩
    decide +kernel
  refine ⟨⟨#[]⟩, ?_, Or.inl ⟨?_, rfl⟩⟩
  · unfold impl_uses.f
    have f : ∀ b, (b = true → False) → impl_uses.j0 9 op b = some ⟨#[]⟩ := by
      intro b hb
      have hb' : b = false := by simpa using hb
      subst hb'
      have e : ∀ n : Int, n = 16 ∨ n = 17 ∨ n = 18 ∨ n = 30 ∨ n = 20 ∨ n = 21 ∨ n = 23 ∨ n = 26 ∨ n = 24 ∨ n = 25 ∨ n = 27 ∨ n = 29 → (op == n) = false := by
        intro n hn
        rw [beq_eq_false_iff_ne]
        omega
      have j7 : ∀ k, impl_uses.j7 (k + 1) op false = some ⟨#[]⟩ := fun k => by
        simp only [impl_uses.j7, Bool.false_eq_true, if_false]
        rw [if_neg (by omega)]
      have j6 : ∀ k, impl_uses.j6 (k + 2) op false = some ⟨#[]⟩ := fun k => by
        simp only [impl_uses.j6, Bool.false_eq_true, if_false]
        rw [if_neg (by omega), e 29 (by omega), j7]
      have j5 : ∀ k, impl_uses.j5 (k + 3) op false = some ⟨#[]⟩ := fun k => by
        simp only [impl_uses.j5, Bool.false_eq_true, if_false]
        rw [if_neg (by omega), e 25 (by omega), j6]
      have j4 : ∀ k, impl_uses.j4 (k + 4) op false = some ⟨#[]⟩ := fun k => by
        simp only [impl_uses.j4, Bool.false_eq_true, if_false]
        rw [if_neg (by omega), if_neg (by omega), e 26 (by omega), j5]
      have j3 : ∀ k, impl_uses.j3 (k + 5) op false = some ⟨#[]⟩ := fun k => by
        simp only [impl_uses.j3, Bool.false_eq_true, if_false]
        rw [if_neg (by omega), if_neg (by omega), e 21 (by omega), j4]
      have j2 : ∀ k, impl_uses.j2 (k + 6) op false = some ⟨#[]⟩ := fun k => by
        simp only [impl_uses.j2, Bool.false_eq_true, if_false]
        rw [if_neg (by omega), e 30 (by omega), j3]
      have j1 : ∀ k, impl_uses.j1 (k + 7) op = some ⟨#[]⟩ := fun k => by
        simp only [impl_uses.j1]
        rw [if_neg (by omega), if_neg (by omega), if_neg (by omega), if_neg (by omega), e 17 (by omega), j2]
      simp only [impl_uses.j0, Bool.false_eq_true, if_false]
      rw [show (8 : Nat) = 1 + 7 from rfl, j1]
      split
      · rw [if_neg (by omega)]
      · rfl
    by_cases h1 : op ≥ 1
    · rw [if_pos h1, decide_eq_false (by omega)]
      exact f false (by simp)
    · rw [if_neg h1]
      exact f false (by simp)
  · unfold useL
    repeat rw [if_neg (by omega)]
theorem impl_ins_at (op a b c m : Int) : impl_InsFault.f 9 op a b c m = some (!goodI op a b c m) := by
  obtain ⟨u, hu, h⟩ := impl_uses_at op
  unfold impl_InsFault.f
  rw [hu]
  simp only [Option.bind_some]
  have jt : impl_InsFault.j0 9 u true op a b c m = some true := by simp only [impl_InsFault.j0, if_true]
  rcases h with ⟨hz, rfl⟩ | ⟨hs, hl⟩
  · rw [if_pos (by decide +kernel), jt]
    unfold goodI
    rw [hz]
    simp [goodL]
  · have hne : ¬ u.toList = [] := by
      intro e
      have : u.size = 0 := by
        rw [ByteArray.toList_eq] at e
        have := congrArg List.length e
        simpa using this
      omega
    rw [if_neg hne, impl_Fits_at]
    simp only [Option.bind_some]
    unfold goodI
    rw [hl]
    cases fB m with
    | false =>
      simp only [Bool.not_false, Bool.false_and]
      exact jt
    | true =>
      simp only [Bool.not_true, Bool.true_and, goodL, impl_InsFault.j0, Bool.false_eq_true, if_false, Option.bind_some]
      exact impl_loop 3 u a b c m hs

theorem laws_eqByteS_ev (l : List Int) (hl : l.length ≤ 1099511627776) : Ev (fun k => laws_eqByteS.f k l l) true := by
  have := eq_loop (fun k i => laws_eqByteS.l0 k l l i) l.length (fun k => by simp only [laws_eqByteS.l0]; rw [if_neg (by omega)])
    (fun i hi h => by
      refine Ev.step (f := fun k => laws_eqByteS.l0 k l l ((i + 1 : Nat) : Int)) (fun k => ?_) h
      simp only [laws_eqByteS.l0]
      rw [if_pos (by omega), if_pos (by omega), if_pos (by omega), if_pos trivial, wrap64_next hi (by omega)])
  refine Ev.congr (fun k => ?_) this
  unfold laws_eqByteS.f
  rw [if_pos rfl]

def laws_markByteS_s (m : Int) (n : Nat) : List Int := (List.range n).map fun (i : Nat) => (((m + (i : Int))) % 256)
theorem laws_markByteS_s_at (m : Int) (n i : Nat) (h : i < (laws_markByteS_s m n).length) : (laws_markByteS_s m n)[i] = (((m + (i : Int))) % 256) := by
  simp [laws_markByteS_s]
theorem laws_markByteS_s_len (m : Int) (n : Nat) : (laws_markByteS_s m n).length = n := by simp [laws_markByteS_s]
theorem laws_markByteS_ev (l : List Int) (m : Int) (hl : l.length ≤ 1099511627776) (h0 : 0 ≤ m) (h1 : m ≤ 1099511627776) : Ev (fun k => laws_markByteS.f k l m) (m + l.length, laws_markByteS_s m l.length) := by
  have main : ∀ (d i : Nat) (ys : List Int), i + d = l.length → ys.length = l.length → (∀ j (h : j < ys.length), j < i → ys[j] = (((m + (j : Int))) % 256)) → Ev (fun k => laws_markByteS.l0 k ys (m + i) (i : Int)) (m + l.length, laws_markByteS_s m l.length) := by
    intro d
    induction d with
    | zero =>
      intro i ys hi hy hp
      have e : ys = laws_markByteS_s m l.length := List.ext_getElem (by rw [hy, laws_markByteS_s_len]) (fun j h1 h2 => by rw [hp j h1 (by omega), laws_markByteS_s_at])
      refine Ev.step (f := fun _ => some (m + l.length, laws_markByteS_s m l.length)) (fun k => ?_) (Ev.now _)
      simp only [laws_markByteS.l0]
      rw [if_neg (by omega), ← e, show (i : Int) = (l.length : Int) by omega]
    | succ d ih =>
      intro i ys hi hy hp
      refine Ev.step (fun k => ?_) (ih (i + 1) (ys.set i (((m + (i : Int))) % 256)) (by omega) (by simpa using hy) (fun j h hj => ?_))
      · simp only [laws_markByteS.l0]
        rw [if_pos (by omega), if_pos (by omega), wrap64_next (show i < l.length by omega) (by omega), wrap64_id (x := m + (i : Int) + 1) (by omega) (by omega), show m + (i : Int) + 1 = m + ((i + 1 : Nat) : Int) by omega]
        rfl
      · rw [List.getElem_set]
        by_cases e : i = j
        · subst e
          rw [if_pos rfl]
        · rw [if_neg e]
          exact hp j (by simpa using h) (by omega)
  have := main l.length 0 l (by omega) rfl (fun j _ h => by omega)
  simp only [Int.natCast_zero, Int.add_zero] at this
  exact this
theorem laws_heldByteS_ev (m : Int) (n : Nat) (hl : n ≤ 1099511627776) (h0 : 0 ≤ m) (h1 : m ≤ 1099511627776) : Ev (fun k => laws_heldByteS.f k (laws_markByteS_s m n) m) (m + n) := by
  have main : ∀ (d i : Nat), i + d = n → Ev (fun k => laws_heldByteS.l0 k (laws_markByteS_s m n) (m + i) (i : Int)) (m + n) := by
    intro d
    induction d with
    | zero =>
      intro i hi
      refine Ev.step (f := fun _ => some (m + n)) (fun k => ?_) (Ev.now _)
      have hn := laws_markByteS_s_len m n
      simp only [laws_heldByteS.l0]
      rw [if_neg (by omega), show (i : Int) = (n : Int) by omega]
    | succ d ih =>
      intro i hi
      refine Ev.step (fun k => ?_) (ih (i + 1) (by omega))
      have hn := laws_markByteS_s_len m n
      have hlt : i < (laws_markByteS_s m n).length := by omega
      simp only [laws_heldByteS.l0]
      rw [if_pos (by omega), if_pos (by omega), rd_at hlt, laws_markByteS_s_at, if_pos rfl, wrap64_next hlt (by omega), wrap64_id (x := m + (i : Int) + 1) (by omega) (by omega), show m + (i : Int) + 1 = m + ((i + 1 : Nat) : Int) by omega]
  have := main n 0 (by omega)
  simp only [Int.natCast_zero, Int.add_zero] at this
  exact this


/-- The bytes of an instruction. -/
def encL (op a b c m : Int) : List Int := [op % 256, a % 256, b % 256, c % 256, m % 4294967296 % 256, m % 4294967296 / 256 % 256, m % 4294967296 / 65536 % 256, m % 4294967296 / 16777216]
def encR (op a b c m : Int) : List Int := if goodI op a b c m = true then encL op a b c m else []
theorem impl_ins_ev (op a b c m : Int) : Ev (fun k => impl_InsFault.f k op a b c m) (!goodI op a b c m) := Ev.of (fun k => impl_InsFault.mono op a b c m k) (impl_ins_at op a b c m)
theorem sh_at (x : Int) (n : Nat) (hn : n ≤ 64) : shr .u64 x (n : Int) = x / ((2 ^ n : Nat) : Int) := by
  unfold shr
  rw [Nat.min_eq_left (by simp [IntKind.bits]; omega)]
  simp
theorem spec_enc_ev (op a b c m : Int) (ho : -9223372036854775808 ≤ op ∧ op ≤ 9223372036854775807) (hm : -9223372036854775808 ≤ m ∧ m ≤ 9223372036854775807) : Ev (fun k => spec_EncodeIns.f k op a b c m) (encR op a b c m) := by
  unfold spec_EncodeIns.f encR
  refine Ev.bind (spec_ins_ev op a b c m ho) ?_
  cases goodI op a b c m with
  | false =>
    simp only [Bool.not_false, if_true, Bool.false_eq_true, if_false]
    exact Ev.now _
  | true =>
    simp only [Bool.not_true, Bool.false_eq_true, if_false, if_true]
    have w0 : IntKind.u64.wrap (wrap64 (8 * 0)) = ((0 : Nat) : Int) := by decide +kernel
    have w1 : IntKind.u64.wrap (wrap64 (8 * 1)) = ((8 : Nat) : Int) := by decide +kernel
    have w2 : IntKind.u64.wrap (wrap64 (8 * 2)) = ((16 : Nat) : Int) := by decide +kernel
    have w3 : IntKind.u64.wrap (wrap64 (8 * 3)) = ((24 : Nat) : Int) := by decide +kernel
    have n1 : wrap64 (0 + 1) = 1 := by decide +kernel
    have n2 : wrap64 (1 + 1) = 2 := by decide +kernel
    have n3 : wrap64 (2 + 1) = 3 := by decide +kernel
    have n4 : wrap64 (3 + 1) = 4 := by decide +kernel
    have u : IntKind.u64.wrap m = m % 18446744073709551616 := by simp [IntKind.wrap, IntKind.bits, IntKind.signed]
    have st : ∀ (x : List Int) (i j : Int) (s : Nat), i < 4 → IntKind.u64.wrap (wrap64 (8 * i)) = (s : Int) → s ≤ 64 → x.length < 9 → wrap64 (i + 1) = j → ∀ r, Ev (fun k => spec_EncodeIns.l0 k (x ++ [m % 18446744073709551616 / ((2 ^ s : Nat) : Int) % 256]) j op a b c m) r → Ev (fun k => spec_EncodeIns.l0 k x i op a b c m) r := by
      intro x i j s hi hs h64 hx hj r h
      refine Ev.step (fun k => ?_) h
      simp only [spec_EncodeIns.l0, hs, hj, u]
      rw [if_pos hi, if_pos (by omega), if_pos (by omega), sh_at _ s h64]
    refine st _ 0 1 0 (by omega) w0 (by omega) (by simp) n1 _ (st _ 1 2 8 (by omega) w1 (by omega) (by simp) n2 _ (st _ 2 3 16 (by omega) w2 (by omega) (by simp) n3 _ (st _ 3 4 24 (by omega) w3 (by omega) (by simp) n4 _ ?_)))
    refine Ev.step (f := fun _ => some (encL op a b c m)) (fun k => ?_) (Ev.now _)
    simp only [spec_EncodeIns.l0]
    rw [if_neg (by omega)]
    simp only [encL, List.cons_append, List.nil_append, Nat.reducePow, Option.some.injEq, List.cons.injEq, true_and, and_true]
    refine ⟨?_, ?_, ?_, ?_⟩ <;> omega
theorem impl_enc_ev (op a b c m : Int) : Ev (fun k => impl_EncodeIns.f k op a b c m) (encR op a b c m) := by
  unfold impl_EncodeIns.f encR
  refine Ev.bind (impl_ins_ev op a b c m) ?_
  cases goodI op a b c m with
  | false =>
    simp only [Bool.not_false, if_true, Bool.false_eq_true, if_false]
    exact Ev.now _
  | true =>
    simp only [Bool.not_true, Bool.false_eq_true, if_false, if_true]
    exact Ev.now _
theorem encR_len (op a b c m : Int) : (encR op a b c m).length ≤ 8 := by
  unfold encR encL
  split <;> simp

theorem FnExactEncodeIns : laws_FnExactEncodeIns.Pure := by
  intro op a b c m hop _ _ _ hm
  have i64 : ∀ {x : Int}, (Lit.int .i64 x).wf = true → -9223372036854775808 ≤ x ∧ x ≤ 9223372036854775807 := by
    intro x h
    simp [Lit.wf, IntKind.min, IntKind.max, IntKind.signed, IntKind.bits] at h
    omega
  unfold laws_FnExactEncodeIns.f laws_toIns.f
  simp only [Option.bind_some]
  have e1 := spec_enc_ev op a b c m (i64 hop) (i64 hm)
  have e2 := impl_enc_ev op a b c m
  have wl := encR_len op a b c m
  generalize encR op a b c m = w at *
  refine Ev.rounds (Ev.bind e1 (Ev.bind e2 (Ev.bind (laws_eqByteS_ev w (by omega)) ?_)))
  simp only [if_true]
  refine Ev.bind (laws_markByteS_ev w 1 (by omega) (by omega) (by omega)) ?_
  refine Ev.bind (laws_heldByteS_ev 1 w.length (by omega) (by omega) (by omega)) ?_
  simp only [if_neg (show ¬ (1 : Int) + (w.length : Int) < 0 by omega), if_true]
  refine Ev.bind e2 (Ev.bind (laws_eqByteS_ev w (by omega)) ?_)
  simp only [if_true]
  refine Ev.bind (laws_heldByteS_ev 1 w.length (by omega) (by omega) (by omega)) ?_
  simp only [if_neg (show ¬ (1 : Int) + (w.length : Int) < 0 by omega), if_true]
  exact Ev.now true

end Go.Proofs.Ytcjdgimiobhhnaa.Pure
