/- What the law's arguments hold, opened; the pure statement that is left; and the walk under it. -/
import Derived.Test.YtcjdgimiobhhnaaQFnExactEncodeInsx6
import Derived.Test.YtcjdgimiobhhnaaRowOpen
import Derived.WalkKit
import Derived.ProofKit
namespace Go.Proofs.Ytcjdgimiobhhnaa.OpenFnExactEncodeIns
open Go.RowKit Go.Proofs.Ytcjdgimiobhhnaa.QFnExactEncodeIns Go.Proofs.YtcjdgimiobhhnaaW.PrintWords Go.Proofs.YtcjdgimiobhhnaaW.PrintLast Go.Proofs.YtcjdgimiobhhnaaW.PrintMore Go.Proofs.Ytcjdgimiobhhnaa.RowOpen
set_option linter.unusedVariables false
set_option linter.unusedSimpArgs false
/-- The pure statement. -/
def laws_FnExactEncodeIns.Pure : Prop := ∀ (a0_0 : Int) (a0_1 : Int) (a0_2 : Int) (a0_3 : Int) (a0_4 : Int), (Lit.int .i64 a0_0).wf = true → (Lit.int .i64 a0_1).wf = true → (Lit.int .i64 a0_2).wf = true → (Lit.int .i64 a0_3).wf = true → (Lit.int .i64 a0_4).wf = true → ∃ k, laws_FnExactEncodeIns.f k a0_0 a0_1 a0_2 a0_3 a0_4 = some true
end Go.Proofs.Ytcjdgimiobhhnaa.OpenFnExactEncodeIns
