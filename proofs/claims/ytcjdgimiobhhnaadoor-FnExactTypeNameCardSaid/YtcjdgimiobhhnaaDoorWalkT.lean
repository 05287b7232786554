/- TypeName: what the two functions answer at each number, and that the law then answers true. -/
import Derived.Test.YtcjdgimiobhhnaaDoorRows
import Derived.Test.YtcjdgimiobhhnaaDoorShelf
import Derived.WalkKit
import Derived.WalkSpells
import Derived.WalkLawsBesides
namespace Go.Proofs.YtcjdgimiobhhnaaDoor
open Go.RowKit
set_option linter.unusedVariables false
set_option linter.unusedSimpArgs false
theorem digits_0 : Lib.decDigits 0 = [48] := by simp [Lib.decDigits]
theorem spec_0 (w : World) : Calls Tryd.prog 5 #[.int .i64 0] w fun e w' => e = .returned (.string ⟨#[118, 111, 105, 100]⟩) ∧ w' = w := by
  go_enter Tryd.func5, Tryd.ntmps5
  go_wp2
  go_ret
  exact ⟨rfl, rfl⟩
theorem impl_0 (w : World) : Calls Tryd.prog 6 #[.int .i64 0] w fun e w' => e = .returned (.string ⟨#[118, 111, 105, 100]⟩) ∧ w' = w := by
  have hd := digits_0
  go_enter Tryd.func6, Tryd.ntmps6
  go_wp2
  go_ret
  exact ⟨rfl, rfl⟩
theorem law_0 (w : World) : Calls Tryd.prog 3 #[.int .i64 0] w fun e w' => e = .returned (.bool true) ∧ w' = w := by
  go_enter Tryd.func3, Tryd.ntmps3
  go_wp2_with (first | (go_at_call 5; refine (spec_0 _).mono ?_; rintro e w' ⟨rfl, rfl⟩) | (go_at_call 6; refine (impl_0 _).mono ?_; rintro e w' ⟨rfl, rfl⟩))
  go_ret
  exact ⟨rfl, rfl⟩
theorem digits_1 : Lib.decDigits 1 = [49] := by simp [Lib.decDigits]
theorem spec_1 (w : World) : Calls Tryd.prog 5 #[.int .i64 1] w fun e w' => e = .returned (.string ⟨#[105, 49]⟩) ∧ w' = w := by
  go_enter Tryd.func5, Tryd.ntmps5
  go_wp2
  go_ret
  exact ⟨rfl, rfl⟩
theorem impl_1 (w : World) : Calls Tryd.prog 6 #[.int .i64 1] w fun e w' => e = .returned (.string ⟨#[105, 49]⟩) ∧ w' = w := by
  have hd := digits_1
  go_enter Tryd.func6, Tryd.ntmps6
  go_wp2_with (first | (go_at_call 10; refine (Tryd.strconv_FormatInt_10_small 1 (by omega) _).mono ?_; rintro e w' ⟨rfl, rfl⟩) | go_in)
  go_ret
  exact ⟨rfl, rfl⟩
theorem law_1 (w : World) : Calls Tryd.prog 3 #[.int .i64 1] w fun e w' => e = .returned (.bool true) ∧ w' = w := by
  go_enter Tryd.func3, Tryd.ntmps3
  go_wp2_with (first | (go_at_call 5; refine (spec_1 _).mono ?_; rintro e w' ⟨rfl, rfl⟩) | (go_at_call 6; refine (impl_1 _).mono ?_; rintro e w' ⟨rfl, rfl⟩))
  go_ret
  exact ⟨rfl, rfl⟩
theorem digits_8 : Lib.decDigits 8 = [56] := by simp [Lib.decDigits]
theorem spec_8 (w : World) : Calls Tryd.prog 5 #[.int .i64 8] w fun e w' => e = .returned (.string ⟨#[105, 56]⟩) ∧ w' = w := by
  go_enter Tryd.func5, Tryd.ntmps5
  go_wp2
  go_ret
  exact ⟨rfl, rfl⟩
theorem impl_8 (w : World) : Calls Tryd.prog 6 #[.int .i64 8] w fun e w' => e = .returned (.string ⟨#[105, 56]⟩) ∧ w' = w := by
  have hd := digits_8
  go_enter Tryd.func6, Tryd.ntmps6
  go_wp2_with (first | (go_at_call 10; refine (Tryd.strconv_FormatInt_10_small 8 (by omega) _).mono ?_; rintro e w' ⟨rfl, rfl⟩) | go_in)
  go_ret
  exact ⟨rfl, rfl⟩
theorem law_8 (w : World) : Calls Tryd.prog 3 #[.int .i64 8] w fun e w' => e = .returned (.bool true) ∧ w' = w := by
  go_enter Tryd.func3, Tryd.ntmps3
  go_wp2_with (first | (go_at_call 5; refine (spec_8 _).mono ?_; rintro e w' ⟨rfl, rfl⟩) | (go_at_call 6; refine (impl_8 _).mono ?_; rintro e w' ⟨rfl, rfl⟩))
  go_ret
  exact ⟨rfl, rfl⟩
theorem digits_16 : Lib.decDigits 16 = [49, 54] := by simp [Lib.decDigits]
theorem spec_16 (w : World) : Calls Tryd.prog 5 #[.int .i64 16] w fun e w' => e = .returned (.string ⟨#[105, 49, 54]⟩) ∧ w' = w := by
  go_enter Tryd.func5, Tryd.ntmps5
  go_wp2
  go_ret
  exact ⟨rfl, rfl⟩
theorem impl_16 (w : World) : Calls Tryd.prog 6 #[.int .i64 16] w fun e w' => e = .returned (.string ⟨#[105, 49, 54]⟩) ∧ w' = w := by
  have hd := digits_16
  go_enter Tryd.func6, Tryd.ntmps6
  go_wp2_with (first | (go_at_call 10; refine (Tryd.strconv_FormatInt_10_small 16 (by omega) _).mono ?_; rintro e w' ⟨rfl, rfl⟩) | go_in)
  go_ret
  exact ⟨rfl, rfl⟩
theorem law_16 (w : World) : Calls Tryd.prog 3 #[.int .i64 16] w fun e w' => e = .returned (.bool true) ∧ w' = w := by
  go_enter Tryd.func3, Tryd.ntmps3
  go_wp2_with (first | (go_at_call 5; refine (spec_16 _).mono ?_; rintro e w' ⟨rfl, rfl⟩) | (go_at_call 6; refine (impl_16 _).mono ?_; rintro e w' ⟨rfl, rfl⟩))
  go_ret
  exact ⟨rfl, rfl⟩
theorem digits_32 : Lib.decDigits 32 = [51, 50] := by simp [Lib.decDigits]
theorem spec_32 (w : World) : Calls Tryd.prog 5 #[.int .i64 32] w fun e w' => e = .returned (.string ⟨#[105, 51, 50]⟩) ∧ w' = w := by
  go_enter Tryd.func5, Tryd.ntmps5
  go_wp2
  go_ret
  exact ⟨rfl, rfl⟩
theorem impl_32 (w : World) : Calls Tryd.prog 6 #[.int .i64 32] w fun e w' => e = .returned (.string ⟨#[105, 51, 50]⟩) ∧ w' = w := by
  have hd := digits_32
  go_enter Tryd.func6, Tryd.ntmps6
  go_wp2_with (first | (go_at_call 10; refine (Tryd.strconv_FormatInt_10_small 32 (by omega) _).mono ?_; rintro e w' ⟨rfl, rfl⟩) | go_in)
  go_ret
  exact ⟨rfl, rfl⟩
theorem law_32 (w : World) : Calls Tryd.prog 3 #[.int .i64 32] w fun e w' => e = .returned (.bool true) ∧ w' = w := by
  go_enter Tryd.func3, Tryd.ntmps3
  go_wp2_with (first | (go_at_call 5; refine (spec_32 _).mono ?_; rintro e w' ⟨rfl, rfl⟩) | (go_at_call 6; refine (impl_32 _).mono ?_; rintro e w' ⟨rfl, rfl⟩))
  go_ret
  exact ⟨rfl, rfl⟩
theorem digits_64 : Lib.decDigits 64 = [54, 52] := by simp [Lib.decDigits]
theorem spec_64 (w : World) : Calls Tryd.prog 5 #[.int .i64 64] w fun e w' => e = .returned (.string ⟨#[105, 54, 52]⟩) ∧ w' = w := by
  go_enter Tryd.func5, Tryd.ntmps5
  go_wp2
  go_ret
  exact ⟨rfl, rfl⟩
theorem impl_64 (w : World) : Calls Tryd.prog 6 #[.int .i64 64] w fun e w' => e = .returned (.string ⟨#[105, 54, 52]⟩) ∧ w' = w := by
  have hd := digits_64
  go_enter Tryd.func6, Tryd.ntmps6
  go_wp2_with (first | (go_at_call 10; refine (Tryd.strconv_FormatInt_10_small 64 (by omega) _).mono ?_; rintro e w' ⟨rfl, rfl⟩) | go_in)
  go_ret
  exact ⟨rfl, rfl⟩
theorem law_64 (w : World) : Calls Tryd.prog 3 #[.int .i64 64] w fun e w' => e = .returned (.bool true) ∧ w' = w := by
  go_enter Tryd.func3, Tryd.ntmps3
  go_wp2_with (first | (go_at_call 5; refine (spec_64 _).mono ?_; rintro e w' ⟨rfl, rfl⟩) | (go_at_call 6; refine (impl_64 _).mono ?_; rintro e w' ⟨rfl, rfl⟩))
  go_ret
  exact ⟨rfl, rfl⟩
theorem digits_65 : Lib.decDigits 65 = [54, 53] := by simp [Lib.decDigits]
theorem spec_65 (w : World) : Calls Tryd.prog 5 #[.int .i64 65] w fun e w' => e = .returned (.string ⟨#[112, 116, 114]⟩) ∧ w' = w := by
  go_enter Tryd.func5, Tryd.ntmps5
  go_wp2
  go_ret
  exact ⟨rfl, rfl⟩
theorem impl_65 (w : World) : Calls Tryd.prog 6 #[.int .i64 65] w fun e w' => e = .returned (.string ⟨#[112, 116, 114]⟩) ∧ w' = w := by
  have hd := digits_65
  go_enter Tryd.func6, Tryd.ntmps6
  go_wp2
  go_ret
  exact ⟨rfl, rfl⟩
theorem law_65 (w : World) : Calls Tryd.prog 3 #[.int .i64 65] w fun e w' => e = .returned (.bool true) ∧ w' = w := by
  go_enter Tryd.func3, Tryd.ntmps3
  go_wp2_with (first | (go_at_call 5; refine (spec_65 _).mono ?_; rintro e w' ⟨rfl, rfl⟩) | (go_at_call 6; refine (impl_65 _).mono ?_; rintro e w' ⟨rfl, rfl⟩))
  go_ret
  exact ⟨rfl, rfl⟩
theorem spec_no (t : Int) (w : World) (h0 : ¬ t = 0) (h1 : ¬ t = 1) (h8 : ¬ t = 8) (h16 : ¬ t = 16) (h32 : ¬ t = 32) (h64 : ¬ t = 64) (h65 : ¬ t = 65) : Calls Tryd.prog 5 #[.int .i64 t] w fun e w' => e = .returned (.string ⟨#[]⟩) ∧ w' = w := by
  have b0 : (t == 0) = false := beq_eq_false_iff_ne.mpr h0
  have b0' : (0 == t) = false := beq_eq_false_iff_ne.mpr (fun h => h0 h.symm)
  have b1 : (t == 1) = false := beq_eq_false_iff_ne.mpr h1
  have b1' : (1 == t) = false := beq_eq_false_iff_ne.mpr (fun h => h1 h.symm)
  have b8 : (t == 8) = false := beq_eq_false_iff_ne.mpr h8
  have b8' : (8 == t) = false := beq_eq_false_iff_ne.mpr (fun h => h8 h.symm)
  have b16 : (t == 16) = false := beq_eq_false_iff_ne.mpr h16
  have b16' : (16 == t) = false := beq_eq_false_iff_ne.mpr (fun h => h16 h.symm)
  have b32 : (t == 32) = false := beq_eq_false_iff_ne.mpr h32
  have b32' : (32 == t) = false := beq_eq_false_iff_ne.mpr (fun h => h32 h.symm)
  have b64 : (t == 64) = false := beq_eq_false_iff_ne.mpr h64
  have b64' : (64 == t) = false := beq_eq_false_iff_ne.mpr (fun h => h64 h.symm)
  have b65 : (t == 65) = false := beq_eq_false_iff_ne.mpr h65
  have b65' : (65 == t) = false := beq_eq_false_iff_ne.mpr (fun h => h65 h.symm)
  go_enter Tryd.func5, Tryd.ntmps5
  go_wp2
  go_ret
  exact ⟨rfl, rfl⟩
theorem impl_no (t : Int) (w : World) (h0 : ¬ t = 0) (h1 : ¬ t = 1) (h8 : ¬ t = 8) (h16 : ¬ t = 16) (h32 : ¬ t = 32) (h64 : ¬ t = 64) (h65 : ¬ t = 65) : Calls Tryd.prog 6 #[.int .i64 t] w fun e w' => e = .returned (.string ⟨#[]⟩) ∧ w' = w := by
  have b0 : (t == 0) = false := beq_eq_false_iff_ne.mpr h0
  have b0' : (0 == t) = false := beq_eq_false_iff_ne.mpr (fun h => h0 h.symm)
  have b1 : (t == 1) = false := beq_eq_false_iff_ne.mpr h1
  have b1' : (1 == t) = false := beq_eq_false_iff_ne.mpr (fun h => h1 h.symm)
  have b8 : (t == 8) = false := beq_eq_false_iff_ne.mpr h8
  have b8' : (8 == t) = false := beq_eq_false_iff_ne.mpr (fun h => h8 h.symm)
  have b16 : (t == 16) = false := beq_eq_false_iff_ne.mpr h16
  have b16' : (16 == t) = false := beq_eq_false_iff_ne.mpr (fun h => h16 h.symm)
  have b32 : (t == 32) = false := beq_eq_false_iff_ne.mpr h32
  have b32' : (32 == t) = false := beq_eq_false_iff_ne.mpr (fun h => h32 h.symm)
  have b64 : (t == 64) = false := beq_eq_false_iff_ne.mpr h64
  have b64' : (64 == t) = false := beq_eq_false_iff_ne.mpr (fun h => h64 h.symm)
  have b65 : (t == 65) = false := beq_eq_false_iff_ne.mpr h65
  have b65' : (65 == t) = false := beq_eq_false_iff_ne.mpr (fun h => h65 h.symm)
  go_enter Tryd.func6, Tryd.ntmps6
  go_wp2
  go_ret
  exact ⟨rfl, rfl⟩
theorem law_no (t : Int) (w : World) (h0 : ¬ t = 0) (h1 : ¬ t = 1) (h8 : ¬ t = 8) (h16 : ¬ t = 16) (h32 : ¬ t = 32) (h64 : ¬ t = 64) (h65 : ¬ t = 65) : Calls Tryd.prog 3 #[.int .i64 t] w fun e w' => e = .returned (.bool true) ∧ w' = w := by
  go_enter Tryd.func3, Tryd.ntmps3
  go_wp2_with (first | (go_at_call 5; refine (spec_no t _ h0 h1 h8 h16 h32 h64 h65).mono ?_; rintro e w' ⟨rfl, rfl⟩) | (go_at_call 6; refine (impl_no t _ h0 h1 h8 h16 h32 h64 h65).mono ?_; rintro e w' ⟨rfl, rfl⟩))
  go_ret
  exact ⟨rfl, rfl⟩
theorem law_any (t : Int) (w : World) : Calls Tryd.prog 3 #[.int .i64 t] w fun e w' => e = .returned (.bool true) ∧ w' = w := by

  by_cases h0 : t = 0
  · subst h0
    exact law_0 w
  by_cases h1 : t = 1
  · subst h1
    exact law_1 w
  by_cases h8 : t = 8
  · subst h8
    exact law_8 w
  by_cases h16 : t = 16
  · subst h16
    exact law_16 w
  by_cases h32 : t = 32
  · subst h32
    exact law_32 w
  by_cases h64 : t = 64
  · subst h64
    exact law_64 w
  by_cases h65 : t = 65
  · subst h65
    exact law_65 w
  exact law_no t w h0 h1 h8 h16 h32 h64 h65
end Go.Proofs.YtcjdgimiobhhnaaDoor
