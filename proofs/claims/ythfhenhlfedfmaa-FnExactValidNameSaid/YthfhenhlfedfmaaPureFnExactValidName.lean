/- At every name of at most 1048576 letters the program's ValidName tells what the reference's tells; longer ones are not asked. -/
import Derived.Test.YthfhenhlfedfmaaQFnExactValidNamex3
namespace Go.Proofs.Ythfhenhlfedfmaa.Pure
open Go.RowKit Go.Proofs.Ythfhenhlfedfmaa.QFnExactValidName Go.Proofs.YthfhenhlfedfmaaW.PrintWords Go.Proofs.YthfhenhlfedfmaaW.PrintLast
set_option linter.unusedSimpArgs false
set_option linter.unusedVariables false
set_option maxHeartbeats 4000000

def letB (c : Int) : Bool := decide (97 ≤ c ∧ c ≤ 122) || decide (65 ≤ c ∧ c ≤ 90) || decide (c = 95) || decide (c = 46) || decide (c = 36)
def digB (c : Int) : Bool := decide (48 ≤ c ∧ c ≤ 57)
theorem let_tells (c : Int) : spec_l2Letter.f c = some (letB c) := by
  unfold spec_l2Letter.f letB
  repeat' split
  all_goals
    congr 1
    rw [Bool.eq_iff_iff]
    simp only [Bool.or_eq_true, decide_eq_true_eq, beq_iff_eq, true_iff, eq_self]
    omega
theorem let_dig (c : Int) (h : letB c = true) : digB c = false := by
  unfold letB at h
  unfold digB
  simp only [Bool.or_eq_true, decide_eq_true_eq] at h
  simp only [decide_eq_false_iff_not]
  omega
theorem wrap_next {i : Int} {n : Nat} (h0 : 0 ≤ i) (h : i < (n : Int)) (hn : n ≤ 140737488351232) : wrap64 (i + 1) = i + 1 := by
  unfold wrap64
  omega
theorem spec_step (k : Nat) (s : ByteArray) (i : Int) (h0 : 0 ≤ i) (h : i < (s.size : Int)) (hn : s.size ≤ 140737488351232) :
    spec_l2Name.l0 (k + 1) s i = if letB (bt s i) = true ∨ digB (bt s i) = true then spec_l2Name.l0 k s (i + 1) else some false := by
  simp only [spec_l2Name.l0]
  rw [if_pos h, if_pos h0, let_tells, wrap_next h0 h hn]
  simp only [Option.bind_some]
  unfold digB
  by_cases hl : letB (bt s i) = true
  · rw [if_pos hl, if_pos (Or.inl hl)]
  · rw [if_neg hl]
    by_cases h1 : bt s i < 48
    · rw [if_pos h1, if_neg (by simp only [decide_eq_true_eq]; intro hh; rcases hh with hh | hh; exact hl hh; omega)]
    · rw [if_neg h1]
      by_cases h2 : bt s i > 57
      · rw [if_pos h2, if_neg (by simp only [decide_eq_true_eq]; intro hh; rcases hh with hh | hh; exact hl hh; omega)]
      · rw [if_neg h2, if_pos (Or.inr (by simp only [decide_eq_true_eq]; omega))]
theorem impl_step (k : Nat) (s : ByteArray) (i : Int) (h0 : 0 ≤ i) (h : i < (s.size : Int)) (hn : s.size ≤ 140737488351232) :
    impl_ValidName.l0 (k + 1) s s.size i = if letB (bt s i) = true ∨ (digB (bt s i) = true ∧ i ≠ 0) then impl_ValidName.l0 k s s.size (i + 1) else some false := by
  simp only [impl_ValidName.l0]
  rw [if_pos h, if_pos h0, if_pos h, wrap_next h0 h hn]
  generalize impl_ValidName.l0 k s s.size (i + 1) = r
  generalize bt s i = c
  unfold letB digB
  simp only [Bool.or_eq_true, decide_eq_true_eq]
  repeat' split
  all_goals first | rfl | (exfalso; omega)
theorem both (d : Nat) : ∀ (k : Nat) (s : ByteArray) (i : Int), s.size ≤ 140737488351232 → 1 ≤ i → i ≤ s.size → (s.size : Int) - i = d → d < k →
    ∃ b, spec_l2Name.l0 k s i = some b ∧ impl_ValidName.l0 k s s.size i = some b := by
  induction d with
  | zero =>
    intro k s i hn h0 h1 hd hk
    obtain ⟨k, rfl⟩ : ∃ m, k = m + 1 := ⟨k - 1, by omega⟩
    refine ⟨true, ?_, ?_⟩
    · simp only [spec_l2Name.l0]
      rw [if_neg (by omega)]
    · simp only [impl_ValidName.l0]
      rw [if_neg (by omega)]
  | succ d ih =>
    intro k s i hn h0 h1 hd hk
    obtain ⟨k, rfl⟩ : ∃ m, k = m + 1 := ⟨k - 1, by omega⟩
    obtain ⟨b, hb1, hb2⟩ := ih k s (i + 1) hn (by omega) (by omega) (by omega) (by omega)
    rw [spec_step k s i (by omega) (by omega) hn, impl_step k s i (by omega) (by omega) hn]
    by_cases hl : letB (bt s i) = true ∨ digB (bt s i) = true
    · refine ⟨b, ?_, ?_⟩
      · rw [if_pos hl]
        exact hb1
      · rw [if_pos (hl.imp id fun x => ⟨x, by omega⟩)]
        exact hb2
    · refine ⟨false, ?_, ?_⟩
      · rw [if_neg hl]
      · rw [if_neg (fun x => hl (x.imp id fun y => y.1))]
theorem same (s : ByteArray) (hn : s.size ≤ 1048576) : ∃ b, spec_ValidName.f (s.size + 2) s = some b ∧ impl_ValidName.f (s.size + 2) s = some b := by
  have hn' : s.size ≤ 140737488351232 := by omega
  have hj : ∀ k b, spec_l2Name.j0 (k + 1) s b = if b = true then some false else spec_l2Name.l0 k s 0 := fun k b => by simp only [spec_l2Name.j0]
  have hj' : ∀ k b, impl_ValidName.j0 (k + 1) s b = if b = true then some false else impl_ValidName.l0 k s s.size 0 := fun k b => by simp only [impl_ValidName.j0]
  have hlen : s.toList = [] ↔ s.size = 0 := by
    rw [ByteArray.toList_eq, List.eq_nil_iff_length_eq_zero]
    simp
  unfold spec_ValidName.f spec_l2Name.f impl_ValidName.f
  by_cases hz : s.size = 0
  · refine ⟨false, ?_, ?_⟩
    · rw [if_pos (hlen.2 hz), hj, if_pos rfl]
      rfl
    · rw [if_pos (by omega), hj', if_pos rfl]
  · rw [if_neg (fun x => hz (hlen.1 x)), if_neg (show ¬ ((s.size : Int) < 1) by omega)]
    by_cases hb : (s.size : Int) > 24
    · refine ⟨false, ?_, ?_⟩
      · rw [if_pos hb, hj, if_pos rfl]
        rfl
      · rw [decide_eq_true hb, hj', if_pos rfl]
    · rw [if_neg hb, if_pos (show (0 : Int) < s.size by omega), let_tells, decide_eq_false hb]
      simp only [Option.bind_some]
      rw [hj, hj', if_neg (show ¬ (false = true) by simp)]
      obtain ⟨b, hb1, hb2⟩ := both (s.size - 1) s.size s 1 hn' (by omega) (by omega) (by omega) (by omega)
      rw [impl_step s.size s 0 (by omega) (by omega) hn']
      by_cases hl : letB (bt s 0) = true
      · refine ⟨b, ?_, ?_⟩
        · rw [if_neg (by simp [hl]), spec_step s.size s 0 (by omega) (by omega) hn', if_pos (Or.inl hl), show (0 : Int) + 1 = 1 from rfl, hb1]
          rfl
        · rw [if_pos (Or.inl hl)]
          exact hb2
      · refine ⟨false, ?_, ?_⟩
        · rw [if_pos (by simpa using hl)]
          rfl
        · rw [if_neg (by rintro (x | x); exact hl x; exact x.2 rfl)]
theorem FnExactValidName : laws_FnExactValidName.Pure := by
  intro s _
  refine ⟨s.size + 2, ?_⟩
  unfold laws_FnExactValidName.f
  by_cases hb : (s.size : Int) > 1048576
  · rw [if_pos hb]
  · rw [if_neg hb]
    obtain ⟨b, h1, h2⟩ := same s (by omega)
    rw [h1, h2]
    simp


end Go.Proofs.Ythfhenhlfedfmaa.Pure
