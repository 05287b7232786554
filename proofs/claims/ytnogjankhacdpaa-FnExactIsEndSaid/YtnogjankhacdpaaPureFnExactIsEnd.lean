/- At every argument the program's IsEnd tells what the reference's tells, for all whole numbers of 64 bits. -/
import Derived.Test.YtnogjankhacdpaaPFnExactIsEndx1
namespace Go.Proofs.Ytnogjankhacdpaa.Pure
open Go.RowKit Go.Proofs.Ytnogjankhacdpaa.PFnExactIsEnd Go.Proofs.YtnogjankhacdpaaW.PrintWords Go.Proofs.YtnogjankhacdpaaW.PrintLast

theorem FnExactIsEnd : laws_FnExactIsEnd.Pure := by
  intro a0 _
  have e : impl_IsEnd.f a0 = spec_IsEnd.f a0 := rfl
  have hs : ∃ b, spec_IsEnd.f a0 = some b := by
    unfold spec_IsEnd.f
    split <;> exact ⟨_, rfl⟩
  obtain ⟨b, hb⟩ := hs
  unfold laws_FnExactIsEnd.f
  rw [e, hb]
  simp

end Go.Proofs.Ytnogjankhacdpaa.Pure
