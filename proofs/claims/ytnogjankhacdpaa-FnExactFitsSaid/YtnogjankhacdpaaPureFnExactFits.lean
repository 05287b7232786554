/- At every argument the program's Fits tells what the reference's tells, for all whole numbers of 64 bits. -/
import Derived.Test.YtnogjankhacdpaaPFnExactFitsx1
namespace Go.Proofs.Ytnogjankhacdpaa.Pure
open Go.RowKit Go.Proofs.Ytnogjankhacdpaa.PFnExactFits Go.Proofs.YtnogjankhacdpaaW.PrintWords Go.Proofs.YtnogjankhacdpaaW.PrintLast

theorem FnExactFits : laws_FnExactFits.Pure := by
  intro a0 _
  have e : impl_Fits.f a0 = spec_Fits.f a0 := rfl
  have hs : ∃ b, spec_Fits.f a0 = some b := by
    unfold spec_Fits.f
    split <;> exact ⟨_, rfl⟩
  obtain ⟨b, hb⟩ := hs
  unfold laws_FnExactFits.f
  rw [e, hb]
  simp

end Go.Proofs.Ytnogjankhacdpaa.Pure
