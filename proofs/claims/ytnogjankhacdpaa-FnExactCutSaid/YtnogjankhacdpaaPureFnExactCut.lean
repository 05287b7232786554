/- At every width and word the program's Cut tells what the reference's tells, for all whole numbers of 64 bits. -/
import Derived.Test.YtnogjankhacdpaaPFnExactCutx1
namespace Go.Proofs.Ytnogjankhacdpaa.Pure
open Go.RowKit Go.Proofs.Ytnogjankhacdpaa.PFnExactCut Go.Proofs.YtnogjankhacdpaaW.PrintWords Go.Proofs.YtnogjankhacdpaaW.PrintLast

theorem FnExactCut : laws_FnExactCut.Pure := by
  intro a0 a1 _ _
  have e : ∃ b, impl_Cut.f a0 a1 = some b ∧ spec_Cut.f a0 a1 = some b := by
    by_cases h1 : a0 = 1
    · subst h1
      have v1 : impl_ValidWidth.f 1 = some true := by decide +kernel
      have v2 : spec_ValidWidth.f 1 = some true := by decide +kernel
      have m1 : impl_mask.f 1 = some 1 := by decide +kernel
      have m2 : spec_l1Mask.f 1 = some 1 := by decide +kernel
      refine ⟨Go.bits .and .u64 a1 1, ?_, ?_⟩
      · unfold impl_Cut.f
        rw [v1, m1]
        rfl
      · unfold spec_Cut.f
        rw [v2, m2]
        rfl
    by_cases h8 : a0 = 8
    · subst h8
      have v1 : impl_ValidWidth.f 8 = some true := by decide +kernel
      have v2 : spec_ValidWidth.f 8 = some true := by decide +kernel
      have m1 : impl_mask.f 8 = some 255 := by decide +kernel
      have m2 : spec_l1Mask.f 8 = some 255 := by decide +kernel
      refine ⟨Go.bits .and .u64 a1 255, ?_, ?_⟩
      · unfold impl_Cut.f
        rw [v1, m1]
        rfl
      · unfold spec_Cut.f
        rw [v2, m2]
        rfl
    by_cases h16 : a0 = 16
    · subst h16
      have v1 : impl_ValidWidth.f 16 = some true := by decide +kernel
      have v2 : spec_ValidWidth.f 16 = some true := by decide +kernel
      have m1 : impl_mask.f 16 = some 65535 := by decide +kernel
      have m2 : spec_l1Mask.f 16 = some 65535 := by decide +kernel
      refine ⟨Go.bits .and .u64 a1 65535, ?_, ?_⟩
      · unfold impl_Cut.f
        rw [v1, m1]
        rfl
      · unfold spec_Cut.f
        rw [v2, m2]
        rfl
    by_cases h32 : a0 = 32
    · subst h32
      have v1 : impl_ValidWidth.f 32 = some true := by decide +kernel
      have v2 : spec_ValidWidth.f 32 = some true := by decide +kernel
      have m1 : impl_mask.f 32 = some 4294967295 := by decide +kernel
      have m2 : spec_l1Mask.f 32 = some 4294967295 := by decide +kernel
      refine ⟨Go.bits .and .u64 a1 4294967295, ?_, ?_⟩
      · unfold impl_Cut.f
        rw [v1, m1]
        rfl
      · unfold spec_Cut.f
        rw [v2, m2]
        rfl
    by_cases h64 : a0 = 64
    · subst h64
      have v1 : impl_ValidWidth.f 64 = some true := by decide +kernel
      have v2 : spec_ValidWidth.f 64 = some true := by decide +kernel
      have m1 : impl_mask.f 64 = some 18446744073709551615 := by decide +kernel
      have m2 : spec_l1Mask.f 64 = some 18446744073709551615 := by decide +kernel
      refine ⟨Go.bits .and .u64 a1 18446744073709551615, ?_, ?_⟩
      · unfold impl_Cut.f
        rw [v1, m1]
        rfl
      · unfold spec_Cut.f
        rw [v2, m2]
        rfl
    have h6 : (a0 == 64) = false := by simpa using h64
    refine ⟨0, ?_, ?_⟩
    · simp only [impl_Cut.f, impl_ValidWidth.f, if_neg h1, if_neg h8, if_neg h16, if_neg h32, h6, Option.bind_some]
      rfl
    · simp only [spec_Cut.f, spec_ValidWidth.f, if_neg h1, if_neg h8, if_neg h16, if_neg h32, h6, Option.bind_some]
      rfl
  obtain ⟨b, hi, hs⟩ := e
  unfold laws_FnExactCut.f
  rw [hi, hs]
  simp

end Go.Proofs.Ytnogjankhacdpaa.Pure
