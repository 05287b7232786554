/- At every argument the program's SwapPred tells what the reference's tells, for all whole numbers of 64 bits. -/
import Derived.Test.YtnogjankhacdpaaPFnExactSwapPredx1
namespace Go.Proofs.Ytnogjankhacdpaa.Pure
open Go.RowKit Go.Proofs.Ytnogjankhacdpaa.PFnExactSwapPred Go.Proofs.YtnogjankhacdpaaW.PrintWords Go.Proofs.YtnogjankhacdpaaW.PrintLast

theorem FnExactSwapPred : laws_FnExactSwapPred.Pure := by
  intro a0 _
  refine ⟨2, ?_⟩
  have e : ∃ b, impl_SwapPred.f 2 a0 = some b ∧ spec_SwapPred.f 2 a0 = some b := by
    simp only [impl_SwapPred.f, spec_SwapPred.f, impl_SwapPred.j0, spec_SwapPred.j0, impl_SwapPred.j1, spec_SwapPred.j1, beq_iff_eq]
    by_cases h1 : a0 = 1
    · subst h1; exact ⟨_, rfl, rfl⟩
    by_cases h2 : a0 = 2
    · subst h2; exact ⟨_, rfl, rfl⟩
    by_cases h3 : a0 = 3
    · subst h3; exact ⟨_, rfl, rfl⟩
    by_cases h4 : a0 = 4
    · subst h4; exact ⟨_, rfl, rfl⟩
    by_cases h5 : a0 = 5
    · subst h5; exact ⟨_, rfl, rfl⟩
    by_cases h6 : a0 = 6
    · subst h6; exact ⟨_, rfl, rfl⟩
    by_cases h7 : a0 = 7
    · subst h7; exact ⟨_, rfl, rfl⟩
    by_cases h8 : a0 = 8
    · subst h8; exact ⟨_, rfl, rfl⟩
    by_cases h9 : a0 = 9
    · subst h9; exact ⟨_, rfl, rfl⟩
    by_cases h10 : a0 = 10
    · subst h10; exact ⟨_, rfl, rfl⟩
    simp only [if_neg h1, if_neg h2, if_neg h3, if_neg h4, if_neg h5, if_neg h6, if_neg h7, if_neg h8, if_neg h9, if_neg h10]
    exact ⟨_, rfl, rfl⟩
  obtain ⟨b, hi, hs⟩ := e
  unfold laws_FnExactSwapPred.f
  rw [hi, hs]
  simp

end Go.Proofs.Ytnogjankhacdpaa.Pure
