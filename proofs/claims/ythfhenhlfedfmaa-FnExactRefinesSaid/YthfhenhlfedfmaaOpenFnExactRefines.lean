/- What the law's arguments hold, opened; the pure statement that is left; and the walk under it. -/
import Derived.Test.YthfhenhlfedfmaaQFnExactRefinesx6
import Derived.Test.YthfhenhlfedfmaaRowOpen
import Derived.WalkKit
import Derived.ProofKit
namespace Go.Proofs.Ythfhenhlfedfmaa.OpenFnExactRefines
open Go.RowKit Go.Proofs.Ythfhenhlfedfmaa.QFnExactRefines Go.Proofs.YthfhenhlfedfmaaW.PrintWords Go.Proofs.YthfhenhlfedfmaaW.PrintLast Go.Proofs.YthfhenhlfedfmaaW.PrintMore Go.Proofs.Ythfhenhlfedfmaa.RowOpen
set_option linter.unusedVariables false
set_option linter.unusedSimpArgs false
/-- The pure statement. -/
def laws_FnExactRefines.Pure : Prop := ∀ (a0_0 : Int) (a0_1 : Bool) (a0_2 : Int) (a0_3 : Int) (l0_4 : List Int) (a0_5 : Int) (a1_0 : Int) (a1_1 : Bool) (a1_2 : Int) (a1_3 : Int) (l1_4 : List Int) (a1_5 : Int), (Lit.int .i64 a0_0).wf = true → (Lit.int .i64 a0_2).wf = true → (Lit.int .u64 a0_3).wf = true → (l0_4.length ≤ maxLen ∧ ∀ y ∈ l0_4, (Lit.int .u64 y).wf = true) → (Lit.int .i64 a0_5).wf = true → (Lit.int .i64 a1_0).wf = true → (Lit.int .i64 a1_2).wf = true → (Lit.int .u64 a1_3).wf = true → (l1_4.length ≤ maxLen ∧ ∀ y ∈ l1_4, (Lit.int .u64 y).wf = true) → (Lit.int .i64 a1_5).wf = true → ∃ k, laws_FnExactRefines.f k a0_0 a0_1 a0_2 a0_3 l0_4 a0_5 a1_0 a1_1 a1_2 a1_3 l1_4 a1_5 = some true
end Go.Proofs.Ythfhenhlfedfmaa.OpenFnExactRefines
