/- Which instructions are faulty for the specification. -/
import Derived.Test.YtcjdgimiobhhnaaQFnInsx4
import Derived.Test.YtcjdgimiobhhnaaPlGen
namespace Go.Proofs.Ytcjdgimiobhhnaa.PlIns
open Go.RowKit Go.Proofs.Ytcjdgimiobhhnaa.QFnIns Go.Proofs.YtcjdgimiobhhnaaW.PrintWords Go.Proofs.YtcjdgimiobhhnaaW.PrintLast Go.Proofs.YtcjdgimiobhhnaaW.PrintMore Go.Proofs.Ytcjdgimiobhhnaa.PlGen
set_option linter.unusedSimpArgs false
set_option linter.unusedVariables false
set_option linter.unusedSectionVars false
set_option maxHeartbeats 4000000
/-! instructions of the machine: which are without fault -/
def rB (v : Int) : Bool := decide (0 ≤ v ∧ v ≤ 31)
def pB (v : Int) : Bool := decide (1 ≤ v ∧ v ≤ 10)
def nB (v : Int) : Bool := decide (v = 1 ∨ v = 2 ∨ v = 4 ∨ v = 8)
def wdB (v : Int) : Bool := decide (v = 1 ∨ v = 8 ∨ v = 16 ∨ v = 32)
def zB (v : Int) : Bool := decide (v = 0)
def fB (v : Int) : Bool := decide (-2147483648 ≤ v ∧ v ≤ 2147483647)
def okB (c v : Int) : Bool := if c = 114 then rB v else if c = 112 then pB v else if c = 110 then nB v else if c = 119 then wdB v else if c = 45 then zB v else true
/-- Which kinds of operands an operation has. -/
def useL (op : Int) : List Int :=
  if 1 ≤ op ∧ op ≤ 13 then [114, 114, 114, 45] else if 33 ≤ op ∧ op ≤ 45 then [114, 114, 45, 105] else if op = 14 then [114, 114, 114, 112] else if op = 46 then [114, 114, 112, 105]
  else if op = 15 then [114, 114, 114, 114] else if op = 16 ∨ op = 17 then [114, 114, 45, 119] else if op = 18 ∨ op = 30 ∨ op = 24 ∨ op = 25 then [114, 45, 45, 105] else if op = 19 then [114, 114, 45, 105]
  else if op = 20 ∨ op = 21 then [114, 114, 110, 105] else if op = 22 then [114, 114, 45, 45] else if op = 23 ∨ op = 26 then [45, 45, 45, 105] else if op = 27 ∨ op = 29 then [45, 45, 45, 45] else if op = 28 then [114, 45, 45, 45] else []
def goodL (l : List Int) (a b c m : Int) : Bool := match l with
  | [p, q, r, s] => okB p a && (okB q b && (okB r c && okB s m))
  | _ => false
def goodI (op a b c m : Int) : Bool := fB m && goodL (useL op) a b c m
theorem op_cases (op : Int) : (1 ≤ op ∧ op ≤ 13) ∨ (33 ≤ op ∧ op ≤ 45) ∨ op = 14 ∨ op = 46 ∨ op = 15 ∨ op = 16 ∨ op = 17 ∨ op = 18 ∨ op = 30 ∨ op = 24 ∨ op = 25 ∨ op = 19 ∨ op = 20 ∨ op = 21 ∨ op = 22 ∨ op = 23 ∨ op = 26 ∨ op = 27 ∨ op = 29 ∨ op = 28 ∨ (op < 1 ∨ op = 31 ∨ op = 32 ∨ 46 < op) := by omega
theorem uL14 : useL 14 = [114, 114, 114, 112] := by decide
theorem uL46 : useL 46 = [114, 114, 112, 105] := by decide
theorem uL15 : useL 15 = [114, 114, 114, 114] := by decide
theorem uL16 : useL 16 = [114, 114, 45, 119] := by decide
theorem uL17 : useL 17 = [114, 114, 45, 119] := by decide
theorem uL18 : useL 18 = [114, 45, 45, 105] := by decide
theorem uL30 : useL 30 = [114, 45, 45, 105] := by decide
theorem uL24 : useL 24 = [114, 45, 45, 105] := by decide
theorem uL25 : useL 25 = [114, 45, 45, 105] := by decide
theorem uL19 : useL 19 = [114, 114, 45, 105] := by decide
theorem uL20 : useL 20 = [114, 114, 110, 105] := by decide
theorem uL21 : useL 21 = [114, 114, 110, 105] := by decide
theorem uL22 : useL 22 = [114, 114, 45, 45] := by decide
theorem uL23 : useL 23 = [45, 45, 45, 105] := by decide
theorem uL26 : useL 26 = [45, 45, 45, 105] := by decide
theorem uL27 : useL 27 = [45, 45, 45, 45] := by decide
theorem uL29 : useL 29 = [45, 45, 45, 45] := by decide
theorem uL28 : useL 28 = [114, 45, 45, 45] := by decide
theorem spec_reg_at (v : Int) : spec_l16Reg.f v = some (rB v) := by
  unfold spec_l16Reg.f rB
  by_cases h : v ≥ 0
  · rw [if_pos h]
    congr 1
    rw [Bool.eq_iff_iff]
    simp only [decide_eq_true_eq]
    omega
  · rw [if_neg h, decide_eq_false (by omega)]
theorem spec_pred_at (v : Int) : spec_l16Pred.f v = some (pB v) := by
  unfold spec_l16Pred.f pB
  by_cases h : v ≥ 1
  · rw [if_pos h]
    congr 1
    rw [Bool.eq_iff_iff]
    simp only [decide_eq_true_eq]
    omega
  · rw [if_neg h, decide_eq_false (by omega)]
theorem spec_Fits_at (v : Int) : spec_Fits.f v = some (fB v) := by
  unfold spec_Fits.f fB
  by_cases h : v ≥ -2147483648
  · rw [if_pos h]
    congr 1
    rw [Bool.eq_iff_iff]
    simp only [decide_eq_true_eq]
    omega
  · rw [if_neg h, decide_eq_false (by omega)]
theorem spec_alu_at (v : Int) : spec_l16Alu.f v = some (decide (1 ≤ v ∧ v ≤ 13)) := by
  unfold spec_l16Alu.f
  by_cases h : v ≥ 1
  · rw [if_pos h]
    congr 1
    rw [Bool.eq_iff_iff]
    simp only [decide_eq_true_eq]
    omega
  · rw [if_neg h, decide_eq_false (by omega)]
theorem spec_size_at (v : Int) : spec_l16Size.f v = some (nB v) := by
  unfold spec_l16Size.f nB
  by_cases h1 : v = 1
  · rw [if_pos h1, decide_eq_true (by omega)]
  by_cases h2 : v = 2
  · rw [if_neg h1, if_pos h2, decide_eq_true (by omega)]
  by_cases h4 : v = 4
  · rw [if_neg h1, if_neg h2, if_pos h4, decide_eq_true (by omega)]
  rw [if_neg h1, if_neg h2, if_neg h4]
  congr 1
  rw [Bool.eq_iff_iff]
  simp only [beq_iff_eq, decide_eq_true_eq]
  omega
theorem nz (v : Int) : (v != 0) = !zB v := by
  unfold zB
  rw [Bool.eq_iff_iff]
  simp
theorem zif {α : Type} (v : Int) (x y : α) : (if v = 0 then x else y) = if zB v = true then x else y := by
  unfold zB
  simp
theorem wif (v : Int) : (if v = 1 then some false else (if v = 8 then some false else (if v = 16 then some false else (some (v != 32))))) = some (!wdB v) := by
  unfold wdB
  by_cases h1 : v = 1
  · rw [if_pos h1, decide_eq_true (by omega)]
    rfl
  by_cases h8 : v = 8
  · rw [if_neg h1, if_pos h8, decide_eq_true (by omega)]
    rfl
  by_cases h16 : v = 16
  · rw [if_neg h1, if_neg h8, if_pos h16, decide_eq_true (by omega)]
    rfl
  rw [if_neg h1, if_neg h8, if_neg h16]
  congr 1
  rw [Bool.eq_iff_iff]
  simp only [bne_iff_ne, Bool.not_eq_true', decide_eq_false_iff_not]
  omega
theorem ok_r (v : Int) : okB 114 v = rB v := rfl
theorem ok_p (v : Int) : okB 112 v = pB v := rfl
theorem ok_n (v : Int) : okB 110 v = nB v := rfl
theorem ok_w (v : Int) : okB 119 v = wdB v := rfl
theorem ok_z (v : Int) : okB 45 v = zB v := rfl
theorem ok_i (v : Int) : okB 105 v = true := rfl
theorem spec_ins_at (op a b c m : Int) (hop : -9223372036854775808 ≤ op ∧ op ≤ 9223372036854775807) : spec_InsFault.f 9 op a b c m = some (!goodI op a b c m) := by
  unfold spec_InsFault.f goodI
  rw [spec_Fits_at, spec_reg_at, spec_reg_at, spec_reg_at, spec_alu_at, spec_alu_at, spec_pred_at, spec_pred_at, spec_reg_at]
  simp only [Option.bind_some]
  cases fB m with
  | false => rfl
  | true =>
    simp only [if_true, Bool.true_and]
    have other : ∀ n : Int, ¬ (1 ≤ n ∧ n ≤ 13) → ¬ (33 ≤ n ∧ n ≤ 45) → -9223372036854775808 ≤ n → n ≤ 9223372036854775807 → (decide (1 ≤ n ∧ n ≤ 13) = false ∧ decide (1 ≤ wrap64 (n - 32) ∧ wrap64 (n - 32) ≤ 13) = false) := by
      intro n h1 h2 h3 h4
      refine ⟨decide_eq_false h1, decide_eq_false ?_⟩
      unfold wrap64
      omega
    rcases op_cases op with h | h | h
    · rw [decide_eq_true h]
      have hu : useL op = [114, 114, 114, 45] := by
        unfold useL
        rw [if_pos h]
      rw [hu]
      simp only [goodL, ok_r, ok_z, if_true, nz]
      cases rB a <;> cases rB b <;> cases rB c <;> cases zB m <;> rfl
    · rw [decide_eq_false (show ¬ (1 ≤ op ∧ op ≤ 13) by omega), decide_eq_true (show 1 ≤ wrap64 (op - 32) ∧ wrap64 (op - 32) ≤ 13 by unfold wrap64; omega)]
      have hu : useL op = [114, 114, 45, 105] := by
        unfold useL
        rw [if_neg (by omega), if_pos h]
      rw [hu]
      simp only [goodL, ok_r, ok_z, ok_i, if_true, Bool.false_eq_true, if_false, nz]
      cases rB a <;> cases rB b <;> cases zB c <;> rfl
    · obtain ⟨o1, o2⟩ := other op (by omega) (by omega) hop.1 hop.2
      rw [o1, o2]
      simp only [Bool.false_eq_true, if_false]
      rcases h with rfl | rfl | rfl | rfl | rfl | rfl | rfl | rfl | rfl | rfl | rfl | rfl | rfl | rfl | rfl | rfl | rfl | rfl | h
      iterate 18
        simp only [uL14, uL46, uL15, uL16, uL17, uL18, uL30, uL24, uL25, uL19, uL20, uL21, uL22, uL23, uL26, uL27, uL29, uL28]
        simp only [spec_InsFault.j0, spec_InsFault.j1, spec_InsFault.j2, spec_InsFault.j3, spec_InsFault.j4, Int.reduceEq, if_true, if_false, beq_self_eq_true, Int.reduceBEq, Bool.false_eq_true, spec_size_at, Option.bind_some, wif, nz, zif, goodL, ok_r, ok_p, ok_n, ok_w, ok_z, ok_i]
        first
          | (cases rB a <;> cases rB b <;> cases rB c <;> cases pB m <;> rfl)
          | (cases rB a <;> cases rB b <;> cases pB c <;> rfl)
          | (cases rB a <;> cases rB b <;> cases rB c <;> cases rB m <;> rfl)
          | (cases rB a <;> cases rB b <;> cases zB c <;> cases wdB m <;> rfl)
          | (cases rB a <;> cases zB b <;> cases zB c <;> rfl)
          | (cases rB a <;> cases rB b <;> cases zB c <;> rfl)
          | (cases rB a <;> cases rB b <;> cases nB c <;> rfl)
          | (cases rB a <;> cases rB b <;> cases zB c <;> cases zB m <;> rfl)
          | (cases zB a <;> cases zB b <;> cases zB c <;> rfl)
          | (cases zB a <;> cases zB b <;> cases zB c <;> cases zB m <;> rfl)
          | (cases rB a <;> cases zB b <;> cases zB c <;> cases zB m <;> rfl)
      have hu : useL op = [] := by
        unfold useL
        repeat rw [if_neg (by omega)]
      have e : ∀ n : Int, n = 16 ∨ n = 17 ∨ n = 18 ∨ n = 30 ∨ n = 20 ∨ n = 21 ∨ n = 23 ∨ n = 26 ∨ n = 24 ∨ n = 25 ∨ n = 27 ∨ n = 29 → (op == n) = false := by
        intro n hn
        rw [beq_eq_false_iff_ne]
        omega
      rw [hu, if_neg (by omega), if_neg (by omega), if_neg (by omega), if_neg (by omega), e 17 (by omega)]
      simp only [spec_InsFault.j0, Bool.false_eq_true, if_false]
      rw [if_neg (by omega), if_neg (by omega), if_neg (by omega), e 25 (by omega)]
      simp only [spec_InsFault.j1, Bool.false_eq_true, if_false]
      rw [if_neg (by omega), if_neg (by omega), e 21 (by omega)]
      simp only [spec_InsFault.j2, Bool.false_eq_true, if_false]
      rw [if_neg (by omega), if_neg (by omega), e 26 (by omega)]
      simp only [spec_InsFault.j3, Bool.false_eq_true, if_false]
      rw [if_neg (by omega), e 29 (by omega)]
      simp only [spec_InsFault.j4, Bool.false_eq_true, if_false]
      rw [if_neg (by omega)]
      rfl
theorem spec_ins_ev (op a b c m : Int) (ho : -9223372036854775808 ≤ op ∧ op ≤ 9223372036854775807) : Ev (fun k => spec_InsFault.f k op a b c m) (!goodI op a b c m) := Ev.of (fun k => spec_InsFault.mono op a b c m k) (spec_ins_at op a b c m ho)
end Go.Proofs.Ytcjdgimiobhhnaa.PlIns
