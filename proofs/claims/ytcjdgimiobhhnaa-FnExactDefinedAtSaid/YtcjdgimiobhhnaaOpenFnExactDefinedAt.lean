/- What the law's arguments hold, opened; the pure statement that is left; and the walk under it. -/
import Derived.Test.YtcjdgimiobhhnaaQFnExactDefinedAtx6
import Derived.Test.YtcjdgimiobhhnaaRowOpen
import Derived.WalkKit
import Derived.ProofKit
namespace Go.Proofs.Ytcjdgimiobhhnaa.OpenFnExactDefinedAt
open Go.RowKit Go.Proofs.Ytcjdgimiobhhnaa.QFnExactDefinedAt Go.Proofs.YtcjdgimiobhhnaaW.PrintWords Go.Proofs.YtcjdgimiobhhnaaW.PrintLast Go.Proofs.YtcjdgimiobhhnaaW.PrintMore Go.Proofs.Ytcjdgimiobhhnaa.RowOpen
set_option linter.unusedVariables false
set_option linter.unusedSimpArgs false
def q133 (x : S133) : Prop := (Lit.int .i64 x.f0).wf = true ∧ (Lit.int .i64 x.f1).wf = true ∧ (Lit.int .i64 x.f2).wf = true ∧ (Lit.int .u64 x.f3).wf = true
theorem o133 : Opens Try.prog k133 q133 133 := by
  have h := opens_iso (fun x : S133 => (x.f0, x.f1, x.f2, x.f3)) (fun y => ⟨y.1, y.2.1, y.2.2.1, y.2.2.2⟩) (fun _ => rfl) (opens_struct Try.underlying133 rfl (by kernel_rfl) (opensF_cons (opens_int Try.underlying2) rfl (by kernel_rfl) (opensF_cons (opens_int Try.underlying2) rfl (by kernel_rfl) (opensF_cons (opens_int Try.underlying2) rfl (by kernel_rfl) (opensF_one (opens_int Try.underlying25) rfl (by kernel_rfl))))))
  exact h
def q121 (x : S121) : Prop := (Lit.int .i64 x.f0).wf = true ∧ (Lit.int .i64 x.f1).wf = true ∧ (Lit.int .i64 x.f2).wf = true ∧ (Lit.int .i64 x.f3).wf = true ∧ (Lit.int .i64 x.f4).wf = true ∧ (Lit.int .i64 x.f5).wf = true ∧ (x.f6.length ≤ maxLen ∧ ∀ y ∈ x.f6, q133 y) ∧ (x.f7.length ≤ maxLen ∧ ∀ y ∈ x.f7, (Lit.int .i64 y).wf = true) ∧ (x.f8.length ≤ maxLen ∧ ∀ y ∈ x.f8, (Lit.int .u64 y).wf = true)
theorem o121 : Opens Try.prog k121 q121 121 := by
  have h := opens_iso (fun x : S121 => (x.f0, x.f1, x.f2, x.f3, x.f4, x.f5, x.f6, x.f7, x.f8)) (fun y => ⟨y.1, y.2.1, y.2.2.1, y.2.2.2.1, y.2.2.2.2.1, y.2.2.2.2.2.1, y.2.2.2.2.2.2.1, y.2.2.2.2.2.2.2.1, y.2.2.2.2.2.2.2.2⟩) (fun _ => rfl) (opens_struct Try.underlying121 rfl (by kernel_rfl) (opensF_cons (opens_int Try.underlying2) rfl (by kernel_rfl) (opensF_cons (opens_int Try.underlying2) rfl (by kernel_rfl) (opensF_cons (opens_int Try.underlying2) rfl (by kernel_rfl) (opensF_cons (opens_int Try.underlying2) rfl (by kernel_rfl) (opensF_cons (opens_int Try.underlying2) rfl (by kernel_rfl) (opensF_cons (opens_int Try.underlying2) rfl (by kernel_rfl) (opensF_cons (opens_slice Try.underlying119 (by kernel_rfl) o133) rfl (by kernel_rfl) (opensF_cons (opens_slice Try.underlying54 (by kernel_rfl) (opens_int Try.underlying2)) rfl (by kernel_rfl) (opensF_one (opens_slice Try.underlying89 (by kernel_rfl) (opens_int Try.underlying25)) rfl (by kernel_rfl)))))))))))
  exact h
def q109 (x : S109) : Prop := (x.f0.length ≤ maxLen ∧ ∀ y ∈ x.f0, q121 y)
theorem o109 : Opens Try.prog k109 q109 109 := by
  have h := opens_iso (fun x : S109 => x.f0) (fun y => ⟨y⟩) (fun _ => rfl) (opens_struct Try.underlying109 rfl (by kernel_rfl) (opensF_one (opens_slice Try.underlying107 (by kernel_rfl) o121) rfl (by kernel_rfl)))
  exact h
/-- The pure statement. -/
def laws_FnExactDefinedAt.Pure : Prop := ∀ (a0_0 : ByteArray) (a0_1 : Int) (l0_2 : List Int) (a0_3 : Int) (l0_4 : List S109) (a1 : Int), a0_0.size ≤ maxLen → (Lit.int .i64 a0_1).wf = true → (l0_2.length ≤ maxLen ∧ ∀ y ∈ l0_2, (Lit.int .i64 y).wf = true) → (Lit.int .i64 a0_3).wf = true → (l0_4.length ≤ maxLen ∧ ∀ y ∈ l0_4, q109 y) → (Lit.int .i64 a1).wf = true → ∃ k, laws_FnExactDefinedAt.f k a0_0 a0_1 l0_2 a0_3 l0_4 a1 = some true
end Go.Proofs.Ytcjdgimiobhhnaa.OpenFnExactDefinedAt
