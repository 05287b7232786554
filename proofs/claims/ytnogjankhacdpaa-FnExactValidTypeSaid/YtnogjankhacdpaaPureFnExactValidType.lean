/- At every argument the program's ValidType tells what the reference's tells, for all whole numbers of 64 bits. -/
import Derived.Test.YtnogjankhacdpaaPFnExactValidTypex1
namespace Go.Proofs.Ytnogjankhacdpaa.Pure
open Go.RowKit Go.Proofs.Ytnogjankhacdpaa.PFnExactValidType Go.Proofs.YtnogjankhacdpaaW.PrintWords Go.Proofs.YtnogjankhacdpaaW.PrintLast

theorem FnExactValidType : laws_FnExactValidType.Pure := by
  intro a0 _
  have e : impl_ValidType.f a0 = spec_ValidType.f a0 := rfl
  have hs : ∃ b, spec_ValidType.f a0 = some b := by
    unfold spec_ValidType.f spec_ValidWidth.f
    repeat' split
    all_goals (simp only [Option.bind_some]; try split)
    all_goals exact ⟨_, rfl⟩
  obtain ⟨b, hb⟩ := hs
  unfold laws_FnExactValidType.f
  rw [e, hb]
  simp

end Go.Proofs.Ytnogjankhacdpaa.Pure
