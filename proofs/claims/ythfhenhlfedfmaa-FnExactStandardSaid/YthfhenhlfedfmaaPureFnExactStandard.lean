/- At every level the program's Standard tells the reference's list, and its list owns its memory, for all whole numbers of 64 bits. -/
import Derived.Test.YthfhenhlfedfmaaPFnExactStandardx1
namespace Go.Proofs.Ythfhenhlfedfmaa.Pure
open Go.RowKit Go.Proofs.Ythfhenhlfedfmaa.PFnExactStandard Go.Proofs.YthfhenhlfedfmaaW.PrintWords Go.Proofs.YthfhenhlfedfmaaW.PrintLast

theorem FnExactStandard : laws_FnExactStandard.Pure := by
  intro a0 _
  refine ⟨64, ?_⟩
  by_cases h1 : a0 = 1
  · subst h1
    decide +kernel
  by_cases h2 : a0 = 2
  · subst h2
    decide +kernel
  by_cases h3 : a0 = 3
  · subst h3
    decide +kernel
  have hs : spec_Standard.f a0 = some [] := by
    simp only [spec_Standard.f, Option.bind_some, if_neg h1, if_neg h2, if_neg h3]
  have hi : impl_Standard.f a0 = some [] := by
    simp only [impl_Standard.f, Option.bind_some, if_neg h1, if_neg h2, if_neg h3]
  unfold laws_FnExactStandard.f
  rw [hs, hi]
  decide +kernel

end Go.Proofs.Ythfhenhlfedfmaa.Pure
