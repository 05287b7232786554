/- At every argument the program's FlagsOf tells what the reference's tells, for all whole numbers of 64 bits. -/
import Derived.Test.YtnogjankhacdpaaPFnExactFlagsOfx1
namespace Go.Proofs.Ytnogjankhacdpaa.Pure
open Go.RowKit Go.Proofs.Ytnogjankhacdpaa.PFnExactFlagsOf Go.Proofs.YtnogjankhacdpaaW.PrintWords Go.Proofs.YtnogjankhacdpaaW.PrintLast

theorem FnExactFlagsOf : laws_FnExactFlagsOf.Pure := by
  intro a0 _
  refine ⟨1, ?_⟩
  have e : impl_FlagsOf.f 1 a0 = spec_FlagsOf.f 1 a0 := by
    simp only [impl_FlagsOf.f, spec_FlagsOf.f, impl_FlagsOf.j0, spec_FlagsOf.j0]
  have hs : ∃ b, spec_FlagsOf.f 1 a0 = some b := by
    simp only [spec_FlagsOf.f, spec_FlagsOf.j0]
    repeat' split
    all_goals exact ⟨_, rfl⟩
  obtain ⟨b, hb⟩ := hs
  unfold laws_FnExactFlagsOf.f
  rw [e, hb]
  simp

end Go.Proofs.Ytnogjankhacdpaa.Pure
