/- At every argument the program's ValidWidth tells what the reference's tells, for all whole numbers of 64 bits. -/
import Derived.Test.YtnogjankhacdpaaPFnExactValidWidthx1
namespace Go.Proofs.Ytnogjankhacdpaa.Pure
open Go.RowKit Go.Proofs.Ytnogjankhacdpaa.PFnExactValidWidth Go.Proofs.YtnogjankhacdpaaW.PrintWords Go.Proofs.YtnogjankhacdpaaW.PrintLast

theorem FnExactValidWidth : laws_FnExactValidWidth.Pure := by
  intro a0 _
  have e : impl_ValidWidth.f a0 = spec_ValidWidth.f a0 := rfl
  have hs : ∃ b, spec_ValidWidth.f a0 = some b := by
    unfold spec_ValidWidth.f
    repeat' split
    all_goals exact ⟨_, rfl⟩
  obtain ⟨b, hb⟩ := hs
  unfold laws_FnExactValidWidth.f
  rw [e, hb]
  simp

end Go.Proofs.Ytnogjankhacdpaa.Pure
