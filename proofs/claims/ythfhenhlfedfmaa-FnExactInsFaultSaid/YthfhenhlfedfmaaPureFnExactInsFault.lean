/- An instruction is faulty for the program when it is for the specification. -/
import Derived.Test.YthfhenhlfedfmaaOpenFnExactInsFault
namespace Go.Proofs.Ythfhenhlfedfmaa.Pure
open Go.RowKit Go.Proofs.Ythfhenhlfedfmaa.QFnExactInsFault Go.Proofs.Ythfhenhlfedfmaa.OpenFnExactInsFault Go.Proofs.YthfhenhlfedfmaaW.PrintWords Go.Proofs.YthfhenhlfedfmaaW.PrintLast Go.Proofs.YthfhenhlfedfmaaW.PrintMore Go.Proofs.Ythfhenhlfedfmaa.RowOpen
set_option linter.unusedSimpArgs false
set_option linter.unusedVariables false
set_option maxHeartbeats 4000000

/-! instructions of the machine: which are without fault -/
def rB (v : Int) : Bool := decide (0 ≤ v ∧ v ≤ 31)
def pB (v : Int) : Bool := decide (1 ≤ v ∧ v ≤ 10)
def nB (v : Int) : Bool := decide (v = 1 ∨ v = 2 ∨ v = 4 ∨ v = 8)
def wdB (v : Int) : Bool := decide (v = 1 ∨ v = 8 ∨ v = 16 ∨ v = 32)
def zB (v : Int) : Bool := decide (v = 0)
def fB (v : Int) : Bool := decide (-2147483648 ≤ v ∧ v ≤ 2147483647)
def okB (c v : Int) : Bool := if c = 114 then rB v else if c = 112 then pB v else if c = 110 then nB v else if c = 119 then wdB v else if c = 45 then zB v else true
/-- Which kinds of operands an operation has. -/
def useL (op : Int) : List Int :=
  if 1 ≤ op ∧ op ≤ 13 then [114, 114, 114, 45] else if 33 ≤ op ∧ op ≤ 45 then [114, 114, 45, 105] else if op = 14 then [114, 114, 114, 112] else if op = 46 then [114, 114, 112, 105]
  else if op = 15 then [114, 114, 114, 114] else if op = 16 ∨ op = 17 then [114, 114, 45, 119] else if op = 18 ∨ op = 30 ∨ op = 24 ∨ op = 25 then [114, 45, 45, 105] else if op = 19 then [114, 114, 45, 105]
  else if op = 20 ∨ op = 21 then [114, 114, 110, 105] else if op = 22 then [114, 114, 45, 45] else if op = 23 ∨ op = 26 then [45, 45, 45, 105] else if op = 27 ∨ op = 29 then [45, 45, 45, 45] else if op = 28 then [114, 45, 45, 45] else []
def goodL (l : List Int) (a b c m : Int) : Bool := match l with
  | [p, q, r, s] => okB p a && (okB q b && (okB r c && okB s m))
  | _ => false
def goodI (op a b c m : Int) : Bool := fB m && goodL (useL op) a b c m
theorem op_cases (op : Int) : (1 ≤ op ∧ op ≤ 13) ∨ (33 ≤ op ∧ op ≤ 45) ∨ op = 14 ∨ op = 46 ∨ op = 15 ∨ op = 16 ∨ op = 17 ∨ op = 18 ∨ op = 30 ∨ op = 24 ∨ op = 25 ∨ op = 19 ∨ op = 20 ∨ op = 21 ∨ op = 22 ∨ op = 23 ∨ op = 26 ∨ op = 27 ∨ op = 29 ∨ op = 28 ∨ (op < 1 ∨ op = 31 ∨ op = 32 ∨ 46 < op) := by omega

theorem impl_reg_at (v : Int) : impl_reg.f v = some (rB v) := by
  unfold impl_reg.f rB
  by_cases h : v ≥ 0
  · rw [if_pos h]
    congr 1
    rw [Bool.eq_iff_iff]
    simp only [decide_eq_true_eq]
    omega
  · rw [if_neg h, decide_eq_false (by omega)]
theorem impl_pred_at (v : Int) : impl_pred.f v = some (pB v) := by
  unfold impl_pred.f pB
  by_cases h : v ≥ 1
  · rw [if_pos h]
    congr 1
    rw [Bool.eq_iff_iff]
    simp only [decide_eq_true_eq]
    omega
  · rw [if_neg h, decide_eq_false (by omega)]
theorem impl_Fits_at (v : Int) : impl_Fits.f v = some (fB v) := by
  unfold impl_Fits.f fB
  by_cases h : v ≥ -2147483648
  · rw [if_pos h]
    congr 1
    rw [Bool.eq_iff_iff]
    simp only [decide_eq_true_eq]
    omega
  · rw [if_neg h, decide_eq_false (by omega)]
theorem impl_bytesCount_at (v : Int) : impl_bytesCount.f v = some (nB v) := by
  unfold impl_bytesCount.f nB
  by_cases h1 : v = 1
  · rw [if_pos h1, decide_eq_true (by omega)]
  by_cases h2 : v = 2
  · rw [if_neg h1, if_pos h2, decide_eq_true (by omega)]
  by_cases h4 : v = 4
  · rw [if_neg h1, if_neg h2, if_pos h4, decide_eq_true (by omega)]
  rw [if_neg h1, if_neg h2, if_neg h4]
  congr 1
  rw [Bool.eq_iff_iff]
  simp only [beq_iff_eq, decide_eq_true_eq]
  omega
theorem impl_step (k : Nat) (u : ByteArray) (L : List Int) (i : Nat) (hu : u.size = 4) (hL : L.length = 4) (hi : i < 4) :
    impl_InsFault.l0 (k + 1) u L 4 (i : Int) = if okB (bt u (i : Int)) (rd L (i : Int)) = true then impl_InsFault.l0 k u L 4 ((i + 1 : Nat) : Int) else some true := by
  simp only [impl_InsFault.l0]
  rw [if_pos (by omega), if_pos (by omega), if_pos (by omega), if_pos (by omega), impl_reg_at, impl_pred_at, impl_bytesCount_at]
  have hw : wrap64 ((i : Int) + 1) = ((i + 1 : Nat) : Int) := by
    unfold wrap64
    omega
  rw [hw]
  simp only [Option.bind_some]
  unfold okB
  generalize impl_InsFault.l0 k u L 4 ((i + 1 : Nat) : Int) = z
  generalize bt u (i : Int) = ch
  generalize rd L (i : Int) = v
  by_cases c1 : ch = 114
  · simp only [if_pos c1]
  by_cases c2 : ch = 112
  · simp only [if_neg c1, if_pos c2]
  by_cases c3 : ch = 110
  · simp only [if_neg c1, if_neg c2, if_pos c3]
  by_cases c4 : ch = 119
  · simp only [if_neg c1, if_neg c2, if_neg c3, if_pos c4]
    unfold wdB
    simp only [decide_eq_true_eq]
    by_cases w1 : v = 1
    · rw [if_pos w1, if_pos (Or.inl w1)]
    by_cases w8 : v = 8
    · rw [if_neg w1, if_pos w8, if_pos (Or.inr (Or.inl w8))]
    by_cases w16 : v = 16
    · rw [if_neg w1, if_neg w8, if_pos w16, if_pos (Or.inr (Or.inr (Or.inl w16)))]
    by_cases w32 : v = 32
    · rw [if_neg w1, if_neg w8, if_neg w16, if_pos w32, if_pos (Or.inr (Or.inr (Or.inr w32)))]
    rw [if_neg w1, if_neg w8, if_neg w16, if_neg w32, if_neg (by omega)]
  by_cases c5 : ch = 45
  · simp only [if_neg c1, if_neg c2, if_neg c3, if_neg c4, if_pos c5]
    unfold zB
    simp only [decide_eq_true_eq]
  · simp only [if_neg c1, if_neg c2, if_neg c3, if_neg c4, if_neg c5, if_true]
theorem impl_loop (k : Nat) (u : ByteArray) (a b c m : Int) (hu : u.size = 4) :
    impl_InsFault.l0 (k + 5) u [a, b, c, m] 4 0 = some (!(okB (bt u 0) a && (okB (bt u 1) b && (okB (bt u 2) c && okB (bt u 3) m)))) := by
  have s0 := impl_step (k + 4) u [a, b, c, m] 0 hu rfl (by omega)
  have s1 := impl_step (k + 3) u [a, b, c, m] 1 hu rfl (by omega)
  have s2 := impl_step (k + 2) u [a, b, c, m] 2 hu rfl (by omega)
  have s3 := impl_step (k + 1) u [a, b, c, m] 3 hu rfl (by omega)
  have s4 : impl_InsFault.l0 (k + 1) u [a, b, c, m] 4 ((4 : Nat) : Int) = some false := by
    simp only [impl_InsFault.l0]
    rw [if_neg (by omega)]
  have r0 : rd [a, b, c, m] ((0 : Nat) : Int) = a := rfl
  have r1 : rd [a, b, c, m] ((1 : Nat) : Int) = b := rfl
  have r2 : rd [a, b, c, m] ((2 : Nat) : Int) = c := rfl
  have r3 : rd [a, b, c, m] ((3 : Nat) : Int) = m := rfl
  rw [r0] at s0
  rw [r1] at s1
  rw [r2] at s2
  rw [r3] at s3
  show impl_InsFault.l0 (k + 4 + 1) u [a, b, c, m] 4 ((0 : Nat) : Int) = _
  rw [s0, show (0 + 1 : Nat) = 1 from rfl, s1, show (1 + 1 : Nat) = 2 from rfl, s2, show (2 + 1 : Nat) = 3 from rfl, s3, show (3 + 1 : Nat) = 4 from rfl, s4]
  show (if okB (bt u 0) a = true then (if okB (bt u 1) b = true then (if okB (bt u 2) c = true then (if okB (bt u 3) m = true then some false else some true) else some true) else some true) else some true) = _
  cases okB (bt u 0) a <;> cases okB (bt u 1) b <;> cases okB (bt u 2) c <;> cases okB (bt u 3) m <;> rfl
theorem impl_uses_at (op : Int) : ∃ u : ByteArray, impl_uses.f 9 op = some u ∧ ((useL op = [] ∧ u = ⟨#[]⟩) ∨ (u.size = 4 ∧ useL op = [bt u 0, bt u 1, bt u 2, bt u 3])) := by
  rcases op_cases op with h | h | rfl | rfl | rfl | rfl | rfl | rfl | rfl | rfl | rfl | rfl | rfl | rfl | rfl | rfl | rfl | rfl | rfl | rfl | h
  · refine ⟨⟨#[114, 114, 114, 45]⟩, ?_, Or.inr ⟨rfl, ?_⟩⟩
    · unfold impl_uses.f
      rw [if_pos (by omega), decide_eq_true (by omega)]
      rfl
    · unfold useL
      rw [if_pos h]
      decide +kernel
  · refine ⟨⟨#[114, 114, 45, 105]⟩, ?_, Or.inr ⟨rfl, ?_⟩⟩
    · unfold impl_uses.f
      rw [if_pos (by omega), decide_eq_false (by omega)]
      simp only [impl_uses.j0, Bool.false_eq_true, if_false]
      rw [if_pos (by omega), if_pos (by omega)]
    · unfold useL
      rw [if_neg (by omega), if_pos h]
      decide +kernel
  iterate 18
    refine ⟨_, rfl, Or.inr ⟨rfl, ?_⟩⟩
    decide +kernel
  refine ⟨⟨#[]⟩, ?_, Or.inl ⟨?_, rfl⟩⟩
  · unfold impl_uses.f
    have f : ∀ b, (b = true → False) → impl_uses.j0 9 op b = some ⟨#[]⟩ := by
      intro b hb
      have hb' : b = false := by simpa using hb
      subst hb'
      have e : ∀ n : Int, n = 16 ∨ n = 17 ∨ n = 18 ∨ n = 30 ∨ n = 20 ∨ n = 21 ∨ n = 23 ∨ n = 26 ∨ n = 24 ∨ n = 25 ∨ n = 27 ∨ n = 29 → (op == n) = false := by
        intro n hn
        rw [beq_eq_false_iff_ne]
        omega
      have j7 : ∀ k, impl_uses.j7 (k + 1) op false = some ⟨#[]⟩ := fun k => by
        simp only [impl_uses.j7, Bool.false_eq_true, if_false]
        rw [if_neg (by omega)]
      have j6 : ∀ k, impl_uses.j6 (k + 2) op false = some ⟨#[]⟩ := fun k => by
        simp only [impl_uses.j6, Bool.false_eq_true, if_false]
        rw [if_neg (by omega), e 29 (by omega), j7]
      have j5 : ∀ k, impl_uses.j5 (k + 3) op false = some ⟨#[]⟩ := fun k => by
        simp only [impl_uses.j5, Bool.false_eq_true, if_false]
        rw [if_neg (by omega), e 25 (by omega), j6]
      have j4 : ∀ k, impl_uses.j4 (k + 4) op false = some ⟨#[]⟩ := fun k => by
        simp only [impl_uses.j4, Bool.false_eq_true, if_false]
        rw [if_neg (by omega), if_neg (by omega), e 26 (by omega), j5]
      have j3 : ∀ k, impl_uses.j3 (k + 5) op false = some ⟨#[]⟩ := fun k => by
        simp only [impl_uses.j3, Bool.false_eq_true, if_false]
        rw [if_neg (by omega), if_neg (by omega), e 21 (by omega), j4]
      have j2 : ∀ k, impl_uses.j2 (k + 6) op false = some ⟨#[]⟩ := fun k => by
        simp only [impl_uses.j2, Bool.false_eq_true, if_false]
        rw [if_neg (by omega), e 30 (by omega), j3]
      have j1 : ∀ k, impl_uses.j1 (k + 7) op = some ⟨#[]⟩ := fun k => by
        simp only [impl_uses.j1]
        rw [if_neg (by omega), if_neg (by omega), if_neg (by omega), if_neg (by omega), e 17 (by omega), j2]
      simp only [impl_uses.j0, Bool.false_eq_true, if_false]
      rw [show (8 : Nat) = 1 + 7 from rfl, j1]
      split
      · rw [if_neg (by omega)]
      · rfl
    by_cases h1 : op ≥ 1
    · rw [if_pos h1, decide_eq_false (by omega)]
      exact f false (by simp)
    · rw [if_neg h1]
      exact f false (by simp)
  · unfold useL
    repeat rw [if_neg (by omega)]
theorem impl_ins_at (op a b c m : Int) : impl_InsFault.f 9 op a b c m = some (!goodI op a b c m) := by
  obtain ⟨u, hu, h⟩ := impl_uses_at op
  unfold impl_InsFault.f
  rw [hu]
  simp only [Option.bind_some]
  have jt : impl_InsFault.j0 9 u true op a b c m = some true := by simp only [impl_InsFault.j0, if_true]
  rcases h with ⟨hz, rfl⟩ | ⟨hs, hl⟩
  · rw [if_pos (by decide +kernel), jt]
    unfold goodI
    rw [hz]
    simp [goodL]
  · have hne : ¬ u.toList = [] := by
      intro e
      have : u.size = 0 := by
        rw [ByteArray.toList_eq] at e
        have := congrArg List.length e
        simpa using this
      omega
    rw [if_neg hne, impl_Fits_at]
    simp only [Option.bind_some]
    unfold goodI
    rw [hl]
    cases fB m with
    | false =>
      simp only [Bool.not_false, Bool.false_and]
      exact jt
    | true =>
      simp only [Bool.not_true, Bool.true_and, goodL, impl_InsFault.j0, Bool.false_eq_true, if_false, Option.bind_some]
      exact impl_loop 3 u a b c m hs

theorem uL14 : useL 14 = [114, 114, 114, 112] := by decide
theorem uL46 : useL 46 = [114, 114, 112, 105] := by decide
theorem uL15 : useL 15 = [114, 114, 114, 114] := by decide
theorem uL16 : useL 16 = [114, 114, 45, 119] := by decide
theorem uL17 : useL 17 = [114, 114, 45, 119] := by decide
theorem uL18 : useL 18 = [114, 45, 45, 105] := by decide
theorem uL30 : useL 30 = [114, 45, 45, 105] := by decide
theorem uL24 : useL 24 = [114, 45, 45, 105] := by decide
theorem uL25 : useL 25 = [114, 45, 45, 105] := by decide
theorem uL19 : useL 19 = [114, 114, 45, 105] := by decide
theorem uL20 : useL 20 = [114, 114, 110, 105] := by decide
theorem uL21 : useL 21 = [114, 114, 110, 105] := by decide
theorem uL22 : useL 22 = [114, 114, 45, 45] := by decide
theorem uL23 : useL 23 = [45, 45, 45, 105] := by decide
theorem uL26 : useL 26 = [45, 45, 45, 105] := by decide
theorem uL27 : useL 27 = [45, 45, 45, 45] := by decide
theorem uL29 : useL 29 = [45, 45, 45, 45] := by decide
theorem uL28 : useL 28 = [114, 45, 45, 45] := by decide
theorem spec_reg_at (v : Int) : spec_l16Reg.f v = some (rB v) := by
  unfold spec_l16Reg.f rB
  by_cases h : v ≥ 0
  · rw [if_pos h]
    congr 1
    rw [Bool.eq_iff_iff]
    simp only [decide_eq_true_eq]
    omega
  · rw [if_neg h, decide_eq_false (by omega)]
theorem spec_pred_at (v : Int) : spec_l16Pred.f v = some (pB v) := by
  unfold spec_l16Pred.f pB
  by_cases h : v ≥ 1
  · rw [if_pos h]
    congr 1
    rw [Bool.eq_iff_iff]
    simp only [decide_eq_true_eq]
    omega
  · rw [if_neg h, decide_eq_false (by omega)]
theorem spec_Fits_at (v : Int) : spec_Fits.f v = some (fB v) := by
  unfold spec_Fits.f fB
  by_cases h : v ≥ -2147483648
  · rw [if_pos h]
    congr 1
    rw [Bool.eq_iff_iff]
    simp only [decide_eq_true_eq]
    omega
  · rw [if_neg h, decide_eq_false (by omega)]
theorem spec_alu_at (v : Int) : spec_l16Alu.f v = some (decide (1 ≤ v ∧ v ≤ 13)) := by
  unfold spec_l16Alu.f
  by_cases h : v ≥ 1
  · rw [if_pos h]
    congr 1
    rw [Bool.eq_iff_iff]
    simp only [decide_eq_true_eq]
    omega
  · rw [if_neg h, decide_eq_false (by omega)]
theorem spec_size_at (v : Int) : spec_l16Size.f v = some (nB v) := by
  unfold spec_l16Size.f nB
  by_cases h1 : v = 1
  · rw [if_pos h1, decide_eq_true (by omega)]
  by_cases h2 : v = 2
  · rw [if_neg h1, if_pos h2, decide_eq_true (by omega)]
  by_cases h4 : v = 4
  · rw [if_neg h1, if_neg h2, if_pos h4, decide_eq_true (by omega)]
  rw [if_neg h1, if_neg h2, if_neg h4]
  congr 1
  rw [Bool.eq_iff_iff]
  simp only [beq_iff_eq, decide_eq_true_eq]
  omega
theorem nz (v : Int) : (v != 0) = !zB v := by
  unfold zB
  rw [Bool.eq_iff_iff]
  simp
theorem zif {α : Type} (v : Int) (x y : α) : (if v = 0 then x else y) = if zB v = true then x else y := by
  unfold zB
  simp
theorem wif (v : Int) : (if v = 1 then some false else (if v = 8 then some false else (if v = 16 then some false else (some (v != 32))))) = some (!wdB v) := by
  unfold wdB
  by_cases h1 : v = 1
  · rw [if_pos h1, decide_eq_true (by omega)]
    rfl
  by_cases h8 : v = 8
  · rw [if_neg h1, if_pos h8, decide_eq_true (by omega)]
    rfl
  by_cases h16 : v = 16
  · rw [if_neg h1, if_neg h8, if_pos h16, decide_eq_true (by omega)]
    rfl
  rw [if_neg h1, if_neg h8, if_neg h16]
  congr 1
  rw [Bool.eq_iff_iff]
  simp only [bne_iff_ne, Bool.not_eq_true', decide_eq_false_iff_not]
  omega
theorem ok_r (v : Int) : okB 114 v = rB v := rfl
theorem ok_p (v : Int) : okB 112 v = pB v := rfl
theorem ok_n (v : Int) : okB 110 v = nB v := rfl
theorem ok_w (v : Int) : okB 119 v = wdB v := rfl
theorem ok_z (v : Int) : okB 45 v = zB v := rfl
theorem ok_i (v : Int) : okB 105 v = true := rfl
theorem spec_ins_at (op a b c m : Int) (hop : -9223372036854775808 ≤ op ∧ op ≤ 9223372036854775807) : spec_InsFault.f 9 op a b c m = some (!goodI op a b c m) := by
  unfold spec_InsFault.f goodI
  rw [spec_Fits_at, spec_reg_at, spec_reg_at, spec_reg_at, spec_alu_at, spec_alu_at, spec_pred_at, spec_pred_at, spec_reg_at]
  simp only [Option.bind_some]
  cases fB m with
  | false => rfl
  | true =>
    simp only [if_true, Bool.true_and]
    have other : ∀ n : Int, ¬ (1 ≤ n ∧ n ≤ 13) → ¬ (33 ≤ n ∧ n ≤ 45) → -9223372036854775808 ≤ n → n ≤ 9223372036854775807 → (decide (1 ≤ n ∧ n ≤ 13) = false ∧ decide (1 ≤ wrap64 (n - 32) ∧ wrap64 (n - 32) ≤ 13) = false) := by
      intro n h1 h2 h3 h4
      refine ⟨decide_eq_false h1, decide_eq_false ?_⟩
      unfold wrap64
      omega
    rcases op_cases op with h | h | h
    · rw [decide_eq_true h]
      have hu : useL op = [114, 114, 114, 45] := by
        unfold useL
        rw [if_pos h]
      rw [hu]
      simp only [goodL, ok_r, ok_z, if_true, nz]
      cases rB a <;> cases rB b <;> cases rB c <;> cases zB m <;> rfl
    · rw [decide_eq_false (show ¬ (1 ≤ op ∧ op ≤ 13) by omega), decide_eq_true (show 1 ≤ wrap64 (op - 32) ∧ wrap64 (op - 32) ≤ 13 by unfold wrap64; omega)]
      have hu : useL op = [114, 114, 45, 105] := by
        unfold useL
        rw [if_neg (by omega), if_pos h]
      rw [hu]
      simp only [goodL, ok_r, ok_z, ok_i, if_true, Bool.false_eq_true, if_false, nz]
      cases rB a <;> cases rB b <;> cases zB c <;> rfl
    · obtain ⟨o1, o2⟩ := other op (by omega) (by omega) hop.1 hop.2
      rw [o1, o2]
      simp only [Bool.false_eq_true, if_false]
      rcases h with rfl | rfl | rfl | rfl | rfl | rfl | rfl | rfl | rfl | rfl | rfl | rfl | rfl | rfl | rfl | rfl | rfl | rfl | h
      iterate 18
        simp only [uL14, uL46, uL15, uL16, uL17, uL18, uL30, uL24, uL25, uL19, uL20, uL21, uL22, uL23, uL26, uL27, uL29, uL28]
        simp only [spec_InsFault.j0, spec_InsFault.j1, spec_InsFault.j2, spec_InsFault.j3, spec_InsFault.j4, Int.reduceEq, if_true, if_false, beq_self_eq_true, Int.reduceBEq, Bool.false_eq_true, spec_size_at, Option.bind_some, wif, nz, zif, goodL, ok_r, ok_p, ok_n, ok_w, ok_z, ok_i]
        first
          | (cases rB a <;> cases rB b <;> cases rB c <;> cases pB m <;> rfl)
          | (cases rB a <;> cases rB b <;> cases pB c <;> rfl)
          | (cases rB a <;> cases rB b <;> cases rB c <;> cases rB m <;> rfl)
          | (cases rB a <;> cases rB b <;> cases zB c <;> cases wdB m <;> rfl)
          | (cases rB a <;> cases zB b <;> cases zB c <;> rfl)
          | (cases rB a <;> cases rB b <;> cases zB c <;> rfl)
          | (cases rB a <;> cases rB b <;> cases nB c <;> rfl)
          | (cases rB a <;> cases rB b <;> cases zB c <;> cases zB m <;> rfl)
          | (cases zB a <;> cases zB b <;> cases zB c <;> rfl)
          | (cases zB a <;> cases zB b <;> cases zB c <;> cases zB m <;> rfl)
          | (cases rB a <;> cases zB b <;> cases zB c <;> cases zB m <;> rfl)
      have hu : useL op = [] := by
        unfold useL
        repeat rw [if_neg (by omega)]
      have e : ∀ n : Int, n = 16 ∨ n = 17 ∨ n = 18 ∨ n = 30 ∨ n = 20 ∨ n = 21 ∨ n = 23 ∨ n = 26 ∨ n = 24 ∨ n = 25 ∨ n = 27 ∨ n = 29 → (op == n) = false := by
        intro n hn
        rw [beq_eq_false_iff_ne]
        omega
      rw [hu, if_neg (by omega), if_neg (by omega), if_neg (by omega), if_neg (by omega), e 17 (by omega)]
      simp only [spec_InsFault.j0, Bool.false_eq_true, if_false]
      rw [if_neg (by omega), if_neg (by omega), if_neg (by omega), e 25 (by omega)]
      simp only [spec_InsFault.j1, Bool.false_eq_true, if_false]
      rw [if_neg (by omega), if_neg (by omega), e 21 (by omega)]
      simp only [spec_InsFault.j2, Bool.false_eq_true, if_false]
      rw [if_neg (by omega), if_neg (by omega), e 26 (by omega)]
      simp only [spec_InsFault.j3, Bool.false_eq_true, if_false]
      rw [if_neg (by omega), e 29 (by omega)]
      simp only [spec_InsFault.j4, Bool.false_eq_true, if_false]
      rw [if_neg (by omega)]
      rfl

theorem FnExactInsFault : laws_FnExactInsFault.Pure := by
  intro op a b c m hop _ _ _ _
  have ho : -9223372036854775808 ≤ op ∧ op ≤ 9223372036854775807 := by
    simp [Lit.wf, IntKind.min, IntKind.max, IntKind.signed, IntKind.bits] at hop
    omega
  refine ⟨9, ?_⟩
  unfold laws_FnExactInsFault.f laws_toIns.f
  simp only [Option.bind_some]
  rw [spec_ins_at op a b c m ho, impl_ins_at]
  simp

end Go.Proofs.Ythfhenhlfedfmaa.Pure
