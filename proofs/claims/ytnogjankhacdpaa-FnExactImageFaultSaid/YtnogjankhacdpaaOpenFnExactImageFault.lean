/- What the law's arguments hold, opened; the pure statement that is left; and the walk under it. -/
import Derived.Test.YtnogjankhacdpaaQFnExactImageFaultx11
import Derived.Test.YtnogjankhacdpaaRowOpen
import Derived.WalkKit
import Derived.ProofKit
namespace Go.Proofs.Ytnogjankhacdpaa.OpenFnExactImageFault
open Go.RowKit Go.Proofs.Ytnogjankhacdpaa.QFnExactImageFault Go.Proofs.YtnogjankhacdpaaW.PrintWords Go.Proofs.YtnogjankhacdpaaW.PrintLast Go.Proofs.YtnogjankhacdpaaW.PrintMore Go.Proofs.Ytnogjankhacdpaa.RowOpen
set_option linter.unusedVariables false
set_option linter.unusedSimpArgs false
def q92 (x : S92) : Prop := x.f0.size ≤ maxLen ∧ True ∧ (Lit.int .i64 x.f2).wf = true
theorem o92 : Opens Try.prog k92 q92 92 := by
  have h := opens_iso (fun x : S92 => (x.f0, x.f1, x.f2)) (fun y => ⟨y.1, y.2.1, y.2.2⟩) (fun _ => rfl) (opens_struct Try.underlying92 rfl (by kernel_rfl) (opensF_cons (opens_string Try.underlying9) rfl (by kernel_rfl) (opensF_cons (opens_bool Try.underlying4) rfl (by kernel_rfl) (opensF_one (opens_int Try.underlying2) rfl (by kernel_rfl)))))
  exact h
/-- The pure statement. -/
def laws_FnExactImageFault.Pure : Prop := ∀ (l0_0 : List Int) (l0_1 : List Int) (a0_2 : Int) (l0_3 : List Int) (a0_4 : Int) (l0_5 : List S92), (l0_0.length ≤ maxLen ∧ ∀ y ∈ l0_0, (Lit.int .u8 y).wf = true) → (l0_1.length ≤ maxLen ∧ ∀ y ∈ l0_1, (Lit.int .u8 y).wf = true) → (Lit.int .i64 a0_2).wf = true → (l0_3.length ≤ maxLen ∧ ∀ y ∈ l0_3, (Lit.int .i64 y).wf = true) → (Lit.int .i64 a0_4).wf = true → (l0_5.length ≤ maxLen ∧ ∀ y ∈ l0_5, q92 y) → ∃ k, laws_FnExactImageFault.f k l0_0 l0_1 a0_2 l0_3 a0_4 l0_5 = some true
end Go.Proofs.Ytnogjankhacdpaa.OpenFnExactImageFault
