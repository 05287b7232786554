/- What the law's arguments hold, opened; the pure statement that is left; and the walk under it. -/
import Derived.Test.YthfhenhlfedfmaaQFnExactReadsx4
import Derived.Test.YthfhenhlfedfmaaRowOpen
import Derived.WalkKit
import Derived.ProofKit
namespace Go.Proofs.Ythfhenhlfedfmaa.OpenFnExactReads
open Go.RowKit Go.Proofs.Ythfhenhlfedfmaa.QFnExactReads Go.Proofs.YthfhenhlfedfmaaW.PrintWords Go.Proofs.YthfhenhlfedfmaaW.PrintLast Go.Proofs.YthfhenhlfedfmaaW.PrintMore Go.Proofs.Ythfhenhlfedfmaa.RowOpen
set_option linter.unusedVariables false
set_option linter.unusedSimpArgs false
/-- The pure statement. -/
def laws_FnExactReads.Pure : Prop := ∀ (a0_0 : Int) (a0_1 : Int) (a0_2 : Int) (a0_3 : Int) (a0_4 : Int) (a0_5 : Int) (a0_6 : ByteArray) (l0_7 : List Int), (Lit.int .i64 a0_0).wf = true → (Lit.int .i64 a0_1).wf = true → (Lit.int .i64 a0_2).wf = true → (Lit.int .i64 a0_3).wf = true → (Lit.int .i64 a0_4).wf = true → (Lit.int .i64 a0_5).wf = true → a0_6.size ≤ maxLen → (l0_7.length ≤ maxLen ∧ ∀ y ∈ l0_7, (Lit.int .i64 y).wf = true) → ∃ k, laws_FnExactReads.f k a0_0 a0_1 a0_2 a0_3 a0_4 a0_5 a0_6 l0_7 = some true
end Go.Proofs.Ythfhenhlfedfmaa.OpenFnExactReads
