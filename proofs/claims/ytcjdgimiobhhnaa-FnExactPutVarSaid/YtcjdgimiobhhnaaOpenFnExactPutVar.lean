/- What the law's arguments hold, opened; the pure statement that is left; and the walk under it. -/
import Derived.Test.YtcjdgimiobhhnaaQFnExactPutVarx5
import Derived.Test.YtcjdgimiobhhnaaRowOpen
import Derived.WalkKit
import Derived.ProofKit
namespace Go.Proofs.Ytcjdgimiobhhnaa.OpenFnExactPutVar
open Go.RowKit Go.Proofs.Ytcjdgimiobhhnaa.QFnExactPutVar Go.Proofs.YtcjdgimiobhhnaaW.PrintWords Go.Proofs.YtcjdgimiobhhnaaW.PrintLast Go.Proofs.YtcjdgimiobhhnaaW.PrintMore Go.Proofs.Ytcjdgimiobhhnaa.RowOpen
set_option linter.unusedVariables false
set_option linter.unusedSimpArgs false
/-- The pure statement. -/
def laws_FnExactPutVar.Pure : Prop := ∀ (l0_0 : List Int) (a0_1 : Int) (a1 : Int) (a2 : Int), (l0_0.length ≤ maxLen ∧ ∀ y ∈ l0_0, (Lit.int .u8 y).wf = true) → (Lit.int .i64 a0_1).wf = true → (Lit.int .u64 a1).wf = true → (Lit.int .i64 a2).wf = true → ∃ k, laws_FnExactPutVar.f k l0_0 a0_1 a1 a2 = some true
end Go.Proofs.Ytcjdgimiobhhnaa.OpenFnExactPutVar
