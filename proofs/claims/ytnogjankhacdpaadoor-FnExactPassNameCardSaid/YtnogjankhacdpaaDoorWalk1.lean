/- PassName: what the two functions answer at each number, and that the law then answers true. -/
import Derived.Test.YtnogjankhacdpaaDoorRows
import Derived.WalkKit
import Derived.WalkSpells
import Derived.WalkLawsBesides
namespace Go.Proofs.YtnogjankhacdpaaDoor
open Go.RowKit
set_option linter.unusedVariables false
set_option linter.unusedSimpArgs false
theorem cell_keeps {w w1 : World} (h : Below w.heap.size w w1) {a : Addr} {v : Value} (hc : w.cell? a = some v) : w1.cell? a = some v := (h.cell (World.block_lt_of_cell? w a hc)).trans hc
theorem spec_low (p : Int) (w : World) (h : p < 1) :
    Calls Tryd.prog 4 #[.int .i64 p] w fun e w' => e = .returned (.string ⟨#[]⟩) ∧ w' = w := by
  go_enter Tryd.func4, Tryd.ntmps4
  go_wp2
  go_ret
  exact ⟨rfl, rfl⟩
theorem spec_high (p : Int) (w : World) (h : 11 < p) :
    Calls Tryd.prog 4 #[.int .i64 p] w fun e w' => e = .returned (.string ⟨#[]⟩) ∧ w' = w := by
  have h1 : ¬ p < 1 := by omega
  go_enter Tryd.func4, Tryd.ntmps4
  go_wp2
  go_ret
  exact ⟨rfl, rfl⟩
theorem impl_low (p : Int) (w : World) (h : p < 1) :
    Calls Tryd.prog 5 #[.int .i64 p] w fun e w' => e = .returned (.string ⟨#[]⟩) ∧ w' = w := by
  go_enter Tryd.func5, Tryd.ntmps5
  go_wp2
  go_ret
  exact ⟨rfl, rfl⟩
theorem impl_high (p : Int) (w : World) (h : 11 < p) :
    Calls Tryd.prog 5 #[.int .i64 p] w fun e w' => e = .returned (.string ⟨#[]⟩) ∧ w' = w := by
  have h1 : ¬ p < 1 := by omega
  go_enter Tryd.func5, Tryd.ntmps5
  go_wp2
  go_ret
  exact ⟨rfl, rfl⟩
theorem law_low (p : Int) (w : World) (h : p < 1) :
    Calls Tryd.prog 3 #[.int .i64 p] w fun e w' => e = .returned (.bool true) ∧ Below w.heap.size w w' := by
  go_enter Tryd.func3, Tryd.ntmps3
  go_wp2_with (first | (go_at_call 4; refine (spec_low p _ h).mono ?_; rintro e w' ⟨rfl, rfl⟩) | (go_at_call 5; refine (impl_low p _ h).mono ?_; rintro e w' ⟨rfl, rfl⟩))
  go_ret
  exact ⟨rfl, Below.refl _ _⟩
theorem law_high (p : Int) (w : World) (h : 11 < p) :
    Calls Tryd.prog 3 #[.int .i64 p] w fun e w' => e = .returned (.bool true) ∧ Below w.heap.size w w' := by
  go_enter Tryd.func3, Tryd.ntmps3
  go_wp2_with (first | (go_at_call 4; refine (spec_high p _ h).mono ?_; rintro e w' ⟨rfl, rfl⟩) | (go_at_call 5; refine (impl_high p _ h).mono ?_; rintro e w' ⟨rfl, rfl⟩))
  go_ret
  exact ⟨rfl, Below.refl _ _⟩
theorem spec_1 (w : World) :
    Calls Tryd.prog 4 #[.int .i64 1] w fun e w' => e = .returned (.string ⟨#[102, 111, 108, 100]⟩) ∧ Below w.heap.size w w' := by
  go_enter Tryd.func4, Tryd.ntmps4
  go_wp2
  go_ret
  exact ⟨rfl, (Below.refl _ _).alloc (Nat.le_refl _) _⟩
theorem impl_1 (w : World) (ad : Addr) (cap : Nat) (h0 : w.cell? ⟨0, 0, none⟩ = some (.slice (some ad) 12 cap)) (h1 : w.cell? ⟨ad.block, ad.off + 1, none⟩ = some (.string ⟨#[102, 111, 108, 100]⟩)) :
    Calls Tryd.prog 5 #[.int .i64 1] w fun e w' => e = .returned (.string ⟨#[102, 111, 108, 100]⟩) ∧ w' = w := by
  go_enter Tryd.func5, Tryd.ntmps5
  go_wp2
  go_ret
  exact ⟨rfl, rfl⟩
theorem law_1 (w : World) (ad : Addr) (cap : Nat) (h0 : w.cell? ⟨0, 0, none⟩ = some (.slice (some ad) 12 cap)) (h1 : w.cell? ⟨ad.block, ad.off + 1, none⟩ = some (.string ⟨#[102, 111, 108, 100]⟩)) :
    Calls Tryd.prog 3 #[.int .i64 1] w fun e w' => e = .returned (.bool true) ∧ Below w.heap.size w w' := by
  go_enter Tryd.func3, Tryd.ntmps3
  go_wp2_with (first | (go_at_call 4; refine (spec_1 _).mono ?_; rintro e w1 ⟨rfl, hb⟩) | (go_at_call 5; refine (impl_1 _ ad cap (cell_keeps hb h0) (cell_keeps hb h1)).mono ?_; rintro e w' ⟨rfl, rfl⟩))
  go_ret
  exact ⟨rfl, hb⟩
theorem spec_2 (w : World) :
    Calls Tryd.prog 4 #[.int .i64 2] w fun e w' => e = .returned (.string ⟨#[115, 119, 101, 101, 112]⟩) ∧ Below w.heap.size w w' := by
  go_enter Tryd.func4, Tryd.ntmps4
  go_wp2
  go_ret
  exact ⟨rfl, (Below.refl _ _).alloc (Nat.le_refl _) _⟩
theorem impl_2 (w : World) (ad : Addr) (cap : Nat) (h0 : w.cell? ⟨0, 0, none⟩ = some (.slice (some ad) 12 cap)) (h1 : w.cell? ⟨ad.block, ad.off + 2, none⟩ = some (.string ⟨#[115, 119, 101, 101, 112]⟩)) :
    Calls Tryd.prog 5 #[.int .i64 2] w fun e w' => e = .returned (.string ⟨#[115, 119, 101, 101, 112]⟩) ∧ w' = w := by
  go_enter Tryd.func5, Tryd.ntmps5
  go_wp2
  go_ret
  exact ⟨rfl, rfl⟩
theorem law_2 (w : World) (ad : Addr) (cap : Nat) (h0 : w.cell? ⟨0, 0, none⟩ = some (.slice (some ad) 12 cap)) (h1 : w.cell? ⟨ad.block, ad.off + 2, none⟩ = some (.string ⟨#[115, 119, 101, 101, 112]⟩)) :
    Calls Tryd.prog 3 #[.int .i64 2] w fun e w' => e = .returned (.bool true) ∧ Below w.heap.size w w' := by
  go_enter Tryd.func3, Tryd.ntmps3
  go_wp2_with (first | (go_at_call 4; refine (spec_2 _).mono ?_; rintro e w1 ⟨rfl, hb⟩) | (go_at_call 5; refine (impl_2 _ ad cap (cell_keeps hb h0) (cell_keeps hb h1)).mono ?_; rintro e w' ⟨rfl, rfl⟩))
  go_ret
  exact ⟨rfl, hb⟩
theorem spec_3 (w : World) :
    Calls Tryd.prog 4 #[.int .i64 3] w fun e w' => e = .returned (.string ⟨#[116, 104, 105, 110]⟩) ∧ Below w.heap.size w w' := by
  go_enter Tryd.func4, Tryd.ntmps4
  go_wp2
  go_ret
  exact ⟨rfl, (Below.refl _ _).alloc (Nat.le_refl _) _⟩
theorem impl_3 (w : World) (ad : Addr) (cap : Nat) (h0 : w.cell? ⟨0, 0, none⟩ = some (.slice (some ad) 12 cap)) (h1 : w.cell? ⟨ad.block, ad.off + 3, none⟩ = some (.string ⟨#[116, 104, 105, 110]⟩)) :
    Calls Tryd.prog 5 #[.int .i64 3] w fun e w' => e = .returned (.string ⟨#[116, 104, 105, 110]⟩) ∧ w' = w := by
  go_enter Tryd.func5, Tryd.ntmps5
  go_wp2
  go_ret
  exact ⟨rfl, rfl⟩
theorem law_3 (w : World) (ad : Addr) (cap : Nat) (h0 : w.cell? ⟨0, 0, none⟩ = some (.slice (some ad) 12 cap)) (h1 : w.cell? ⟨ad.block, ad.off + 3, none⟩ = some (.string ⟨#[116, 104, 105, 110]⟩)) :
    Calls Tryd.prog 3 #[.int .i64 3] w fun e w' => e = .returned (.bool true) ∧ Below w.heap.size w w' := by
  go_enter Tryd.func3, Tryd.ntmps3
  go_wp2_with (first | (go_at_call 4; refine (spec_3 _).mono ?_; rintro e w1 ⟨rfl, hb⟩) | (go_at_call 5; refine (impl_3 _ ad cap (cell_keeps hb h0) (cell_keeps hb h1)).mono ?_; rintro e w' ⟨rfl, rfl⟩))
  go_ret
  exact ⟨rfl, hb⟩
theorem spec_4 (w : World) :
    Calls Tryd.prog 4 #[.int .i64 4] w fun e w' => e = .returned (.string ⟨#[112, 114, 111, 109, 111, 116, 101]⟩) ∧ Below w.heap.size w w' := by
  go_enter Tryd.func4, Tryd.ntmps4
  go_wp2
  go_ret
  exact ⟨rfl, (Below.refl _ _).alloc (Nat.le_refl _) _⟩
theorem impl_4 (w : World) (ad : Addr) (cap : Nat) (h0 : w.cell? ⟨0, 0, none⟩ = some (.slice (some ad) 12 cap)) (h1 : w.cell? ⟨ad.block, ad.off + 4, none⟩ = some (.string ⟨#[112, 114, 111, 109, 111, 116, 101]⟩)) :
    Calls Tryd.prog 5 #[.int .i64 4] w fun e w' => e = .returned (.string ⟨#[112, 114, 111, 109, 111, 116, 101]⟩) ∧ w' = w := by
  go_enter Tryd.func5, Tryd.ntmps5
  go_wp2
  go_ret
  exact ⟨rfl, rfl⟩
theorem law_4 (w : World) (ad : Addr) (cap : Nat) (h0 : w.cell? ⟨0, 0, none⟩ = some (.slice (some ad) 12 cap)) (h1 : w.cell? ⟨ad.block, ad.off + 4, none⟩ = some (.string ⟨#[112, 114, 111, 109, 111, 116, 101]⟩)) :
    Calls Tryd.prog 3 #[.int .i64 4] w fun e w' => e = .returned (.bool true) ∧ Below w.heap.size w w' := by
  go_enter Tryd.func3, Tryd.ntmps3
  go_wp2_with (first | (go_at_call 4; refine (spec_4 _).mono ?_; rintro e w1 ⟨rfl, hb⟩) | (go_at_call 5; refine (impl_4 _ ad cap (cell_keeps hb h0) (cell_keeps hb h1)).mono ?_; rintro e w' ⟨rfl, rfl⟩))
  go_ret
  exact ⟨rfl, hb⟩
theorem spec_5 (w : World) :
    Calls Tryd.prog 4 #[.int .i64 5] w fun e w' => e = .returned (.string ⟨#[102, 111, 114, 119, 97, 114, 100]⟩) ∧ Below w.heap.size w w' := by
  go_enter Tryd.func4, Tryd.ntmps4
  go_wp2
  go_ret
  exact ⟨rfl, (Below.refl _ _).alloc (Nat.le_refl _) _⟩
theorem impl_5 (w : World) (ad : Addr) (cap : Nat) (h0 : w.cell? ⟨0, 0, none⟩ = some (.slice (some ad) 12 cap)) (h1 : w.cell? ⟨ad.block, ad.off + 5, none⟩ = some (.string ⟨#[102, 111, 114, 119, 97, 114, 100]⟩)) :
    Calls Tryd.prog 5 #[.int .i64 5] w fun e w' => e = .returned (.string ⟨#[102, 111, 114, 119, 97, 114, 100]⟩) ∧ w' = w := by
  go_enter Tryd.func5, Tryd.ntmps5
  go_wp2
  go_ret
  exact ⟨rfl, rfl⟩
theorem law_5 (w : World) (ad : Addr) (cap : Nat) (h0 : w.cell? ⟨0, 0, none⟩ = some (.slice (some ad) 12 cap)) (h1 : w.cell? ⟨ad.block, ad.off + 5, none⟩ = some (.string ⟨#[102, 111, 114, 119, 97, 114, 100]⟩)) :
    Calls Tryd.prog 3 #[.int .i64 5] w fun e w' => e = .returned (.bool true) ∧ Below w.heap.size w w' := by
  go_enter Tryd.func3, Tryd.ntmps3
  go_wp2_with (first | (go_at_call 4; refine (spec_5 _).mono ?_; rintro e w1 ⟨rfl, hb⟩) | (go_at_call 5; refine (impl_5 _ ad cap (cell_keeps hb h0) (cell_keeps hb h1)).mono ?_; rintro e w' ⟨rfl, rfl⟩))
  go_ret
  exact ⟨rfl, hb⟩
theorem spec_6 (w : World) :
    Calls Tryd.prog 4 #[.int .i64 6] w fun e w' => e = .returned (.string ⟨#[110, 117, 109, 98, 101, 114]⟩) ∧ Below w.heap.size w w' := by
  go_enter Tryd.func4, Tryd.ntmps4
  go_wp2
  go_ret
  exact ⟨rfl, (Below.refl _ _).alloc (Nat.le_refl _) _⟩
theorem impl_6 (w : World) (ad : Addr) (cap : Nat) (h0 : w.cell? ⟨0, 0, none⟩ = some (.slice (some ad) 12 cap)) (h1 : w.cell? ⟨ad.block, ad.off + 6, none⟩ = some (.string ⟨#[110, 117, 109, 98, 101, 114]⟩)) :
    Calls Tryd.prog 5 #[.int .i64 6] w fun e w' => e = .returned (.string ⟨#[110, 117, 109, 98, 101, 114]⟩) ∧ w' = w := by
  go_enter Tryd.func5, Tryd.ntmps5
  go_wp2
  go_ret
  exact ⟨rfl, rfl⟩
theorem law_6 (w : World) (ad : Addr) (cap : Nat) (h0 : w.cell? ⟨0, 0, none⟩ = some (.slice (some ad) 12 cap)) (h1 : w.cell? ⟨ad.block, ad.off + 6, none⟩ = some (.string ⟨#[110, 117, 109, 98, 101, 114]⟩)) :
    Calls Tryd.prog 3 #[.int .i64 6] w fun e w' => e = .returned (.bool true) ∧ Below w.heap.size w w' := by
  go_enter Tryd.func3, Tryd.ntmps3
  go_wp2_with (first | (go_at_call 4; refine (spec_6 _).mono ?_; rintro e w1 ⟨rfl, hb⟩) | (go_at_call 5; refine (impl_6 _ ad cap (cell_keeps hb h0) (cell_keeps hb h1)).mono ?_; rintro e w' ⟨rfl, rfl⟩))
  go_ret
  exact ⟨rfl, hb⟩
theorem spec_7 (w : World) :
    Calls Tryd.prog 4 #[.int .i64 7] w fun e w' => e = .returned (.string ⟨#[99, 111, 110, 115, 116, 97, 110, 116, 115]⟩) ∧ Below w.heap.size w w' := by
  go_enter Tryd.func4, Tryd.ntmps4
  go_wp2
  go_ret
  exact ⟨rfl, (Below.refl _ _).alloc (Nat.le_refl _) _⟩
theorem impl_7 (w : World) (ad : Addr) (cap : Nat) (h0 : w.cell? ⟨0, 0, none⟩ = some (.slice (some ad) 12 cap)) (h1 : w.cell? ⟨ad.block, ad.off + 7, none⟩ = some (.string ⟨#[99, 111, 110, 115, 116, 97, 110, 116, 115]⟩)) :
    Calls Tryd.prog 5 #[.int .i64 7] w fun e w' => e = .returned (.string ⟨#[99, 111, 110, 115, 116, 97, 110, 116, 115]⟩) ∧ w' = w := by
  go_enter Tryd.func5, Tryd.ntmps5
  go_wp2
  go_ret
  exact ⟨rfl, rfl⟩
theorem law_7 (w : World) (ad : Addr) (cap : Nat) (h0 : w.cell? ⟨0, 0, none⟩ = some (.slice (some ad) 12 cap)) (h1 : w.cell? ⟨ad.block, ad.off + 7, none⟩ = some (.string ⟨#[99, 111, 110, 115, 116, 97, 110, 116, 115]⟩)) :
    Calls Tryd.prog 3 #[.int .i64 7] w fun e w' => e = .returned (.bool true) ∧ Below w.heap.size w w' := by
  go_enter Tryd.func3, Tryd.ntmps3
  go_wp2_with (first | (go_at_call 4; refine (spec_7 _).mono ?_; rintro e w1 ⟨rfl, hb⟩) | (go_at_call 5; refine (impl_7 _ ad cap (cell_keeps hb h0) (cell_keeps hb h1)).mono ?_; rintro e w' ⟨rfl, rfl⟩))
  go_ret
  exact ⟨rfl, hb⟩
theorem spec_8 (w : World) :
    Calls Tryd.prog 4 #[.int .i64 8] w fun e w' => e = .returned (.string ⟨#[104, 111, 105, 115, 116]⟩) ∧ Below w.heap.size w w' := by
  go_enter Tryd.func4, Tryd.ntmps4
  go_wp2
  go_ret
  exact ⟨rfl, (Below.refl _ _).alloc (Nat.le_refl _) _⟩
theorem impl_8 (w : World) (ad : Addr) (cap : Nat) (h0 : w.cell? ⟨0, 0, none⟩ = some (.slice (some ad) 12 cap)) (h1 : w.cell? ⟨ad.block, ad.off + 8, none⟩ = some (.string ⟨#[104, 111, 105, 115, 116]⟩)) :
    Calls Tryd.prog 5 #[.int .i64 8] w fun e w' => e = .returned (.string ⟨#[104, 111, 105, 115, 116]⟩) ∧ w' = w := by
  go_enter Tryd.func5, Tryd.ntmps5
  go_wp2
  go_ret
  exact ⟨rfl, rfl⟩
theorem law_8 (w : World) (ad : Addr) (cap : Nat) (h0 : w.cell? ⟨0, 0, none⟩ = some (.slice (some ad) 12 cap)) (h1 : w.cell? ⟨ad.block, ad.off + 8, none⟩ = some (.string ⟨#[104, 111, 105, 115, 116]⟩)) :
    Calls Tryd.prog 3 #[.int .i64 8] w fun e w' => e = .returned (.bool true) ∧ Below w.heap.size w w' := by
  go_enter Tryd.func3, Tryd.ntmps3
  go_wp2_with (first | (go_at_call 4; refine (spec_8 _).mono ?_; rintro e w1 ⟨rfl, hb⟩) | (go_at_call 5; refine (impl_8 _ ad cap (cell_keeps hb h0) (cell_keeps hb h1)).mono ?_; rintro e w' ⟨rfl, rfl⟩))
  go_ret
  exact ⟨rfl, hb⟩
theorem spec_9 (w : World) :
    Calls Tryd.prog 4 #[.int .i64 9] w fun e w' => e = .returned (.string ⟨#[116, 97, 105, 108, 108, 111, 111, 112]⟩) ∧ Below w.heap.size w w' := by
  go_enter Tryd.func4, Tryd.ntmps4
  go_wp2
  go_ret
  exact ⟨rfl, (Below.refl _ _).alloc (Nat.le_refl _) _⟩
theorem impl_9 (w : World) (ad : Addr) (cap : Nat) (h0 : w.cell? ⟨0, 0, none⟩ = some (.slice (some ad) 12 cap)) (h1 : w.cell? ⟨ad.block, ad.off + 9, none⟩ = some (.string ⟨#[116, 97, 105, 108, 108, 111, 111, 112]⟩)) :
    Calls Tryd.prog 5 #[.int .i64 9] w fun e w' => e = .returned (.string ⟨#[116, 97, 105, 108, 108, 111, 111, 112]⟩) ∧ w' = w := by
  go_enter Tryd.func5, Tryd.ntmps5
  go_wp2
  go_ret
  exact ⟨rfl, rfl⟩
theorem law_9 (w : World) (ad : Addr) (cap : Nat) (h0 : w.cell? ⟨0, 0, none⟩ = some (.slice (some ad) 12 cap)) (h1 : w.cell? ⟨ad.block, ad.off + 9, none⟩ = some (.string ⟨#[116, 97, 105, 108, 108, 111, 111, 112]⟩)) :
    Calls Tryd.prog 3 #[.int .i64 9] w fun e w' => e = .returned (.bool true) ∧ Below w.heap.size w w' := by
  go_enter Tryd.func3, Tryd.ntmps3
  go_wp2_with (first | (go_at_call 4; refine (spec_9 _).mono ?_; rintro e w1 ⟨rfl, hb⟩) | (go_at_call 5; refine (impl_9 _ ad cap (cell_keeps hb h0) (cell_keeps hb h1)).mono ?_; rintro e w' ⟨rfl, rfl⟩))
  go_ret
  exact ⟨rfl, hb⟩
theorem spec_10 (w : World) :
    Calls Tryd.prog 4 #[.int .i64 10] w fun e w' => e = .returned (.string ⟨#[105, 110, 108, 105, 110, 101]⟩) ∧ Below w.heap.size w w' := by
  go_enter Tryd.func4, Tryd.ntmps4
  go_wp2
  go_ret
  exact ⟨rfl, (Below.refl _ _).alloc (Nat.le_refl _) _⟩
theorem impl_10 (w : World) (ad : Addr) (cap : Nat) (h0 : w.cell? ⟨0, 0, none⟩ = some (.slice (some ad) 12 cap)) (h1 : w.cell? ⟨ad.block, ad.off + 10, none⟩ = some (.string ⟨#[105, 110, 108, 105, 110, 101]⟩)) :
    Calls Tryd.prog 5 #[.int .i64 10] w fun e w' => e = .returned (.string ⟨#[105, 110, 108, 105, 110, 101]⟩) ∧ w' = w := by
  go_enter Tryd.func5, Tryd.ntmps5
  go_wp2
  go_ret
  exact ⟨rfl, rfl⟩
theorem law_10 (w : World) (ad : Addr) (cap : Nat) (h0 : w.cell? ⟨0, 0, none⟩ = some (.slice (some ad) 12 cap)) (h1 : w.cell? ⟨ad.block, ad.off + 10, none⟩ = some (.string ⟨#[105, 110, 108, 105, 110, 101]⟩)) :
    Calls Tryd.prog 3 #[.int .i64 10] w fun e w' => e = .returned (.bool true) ∧ Below w.heap.size w w' := by
  go_enter Tryd.func3, Tryd.ntmps3
  go_wp2_with (first | (go_at_call 4; refine (spec_10 _).mono ?_; rintro e w1 ⟨rfl, hb⟩) | (go_at_call 5; refine (impl_10 _ ad cap (cell_keeps hb h0) (cell_keeps hb h1)).mono ?_; rintro e w' ⟨rfl, rfl⟩))
  go_ret
  exact ⟨rfl, hb⟩
theorem spec_11 (w : World) :
    Calls Tryd.prog 4 #[.int .i64 11] w fun e w' => e = .returned (.string ⟨#[100, 114, 111, 112]⟩) ∧ Below w.heap.size w w' := by
  go_enter Tryd.func4, Tryd.ntmps4
  go_wp2
  go_ret
  exact ⟨rfl, (Below.refl _ _).alloc (Nat.le_refl _) _⟩
theorem impl_11 (w : World) (ad : Addr) (cap : Nat) (h0 : w.cell? ⟨0, 0, none⟩ = some (.slice (some ad) 12 cap)) (h1 : w.cell? ⟨ad.block, ad.off + 11, none⟩ = some (.string ⟨#[100, 114, 111, 112]⟩)) :
    Calls Tryd.prog 5 #[.int .i64 11] w fun e w' => e = .returned (.string ⟨#[100, 114, 111, 112]⟩) ∧ w' = w := by
  go_enter Tryd.func5, Tryd.ntmps5
  go_wp2
  go_ret
  exact ⟨rfl, rfl⟩
theorem law_11 (w : World) (ad : Addr) (cap : Nat) (h0 : w.cell? ⟨0, 0, none⟩ = some (.slice (some ad) 12 cap)) (h1 : w.cell? ⟨ad.block, ad.off + 11, none⟩ = some (.string ⟨#[100, 114, 111, 112]⟩)) :
    Calls Tryd.prog 3 #[.int .i64 11] w fun e w' => e = .returned (.bool true) ∧ Below w.heap.size w w' := by
  go_enter Tryd.func3, Tryd.ntmps3
  go_wp2_with (first | (go_at_call 4; refine (spec_11 _).mono ?_; rintro e w1 ⟨rfl, hb⟩) | (go_at_call 5; refine (impl_11 _ ad cap (cell_keeps hb h0) (cell_keeps hb h1)).mono ?_; rintro e w' ⟨rfl, rfl⟩))
  go_ret
  exact ⟨rfl, hb⟩
end Go.Proofs.YtnogjankhacdpaaDoor
