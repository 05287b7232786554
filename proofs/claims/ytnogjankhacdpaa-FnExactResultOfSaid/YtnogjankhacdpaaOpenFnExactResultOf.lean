/- What the law's arguments hold, opened; the pure statement that is left; and the walk under it. -/
import Derived.Test.YtnogjankhacdpaaQFnExactResultOfx8
import Derived.Test.YtnogjankhacdpaaRowOpen
import Derived.WalkKit
import Derived.ProofKit
namespace Go.Proofs.Ytnogjankhacdpaa.OpenFnExactResultOf
open Go.RowKit Go.Proofs.Ytnogjankhacdpaa.QFnExactResultOf Go.Proofs.YtnogjankhacdpaaW.PrintWords Go.Proofs.YtnogjankhacdpaaW.PrintLast Go.Proofs.YtnogjankhacdpaaW.PrintMore Go.Proofs.Ytnogjankhacdpaa.RowOpen
set_option linter.unusedVariables false
set_option linter.unusedSimpArgs false
def q118 (x : S118) : Prop := (Lit.int .i64 x.f0).wf = true ∧ (Lit.int .i64 x.f1).wf = true ∧ (Lit.int .i64 x.f2).wf = true ∧ (Lit.int .u64 x.f3).wf = true
theorem o118 : Opens Try.prog k118 q118 118 := by
  have h := opens_iso (fun x : S118 => (x.f0, x.f1, x.f2, x.f3)) (fun y => ⟨y.1, y.2.1, y.2.2.1, y.2.2.2⟩) (fun _ => rfl) (opens_struct Try.underlying118 rfl (by kernel_rfl) (opensF_cons (opens_int Try.underlying2) rfl (by kernel_rfl) (opensF_cons (opens_int Try.underlying2) rfl (by kernel_rfl) (opensF_cons (opens_int Try.underlying2) rfl (by kernel_rfl) (opensF_one (opens_int Try.underlying49) rfl (by kernel_rfl))))))
  exact h
def q106 (x : S106) : Prop := (Lit.int .i64 x.f0).wf = true ∧ (Lit.int .i64 x.f1).wf = true ∧ (Lit.int .i64 x.f2).wf = true ∧ (Lit.int .i64 x.f3).wf = true ∧ (Lit.int .i64 x.f4).wf = true ∧ (Lit.int .i64 x.f5).wf = true ∧ (x.f6.length ≤ maxLen ∧ ∀ y ∈ x.f6, q118 y) ∧ (x.f7.length ≤ maxLen ∧ ∀ y ∈ x.f7, (Lit.int .i64 y).wf = true) ∧ (x.f8.length ≤ maxLen ∧ ∀ y ∈ x.f8, (Lit.int .u64 y).wf = true)
theorem o106 : Opens Try.prog k106 q106 106 := by
  have h := opens_iso (fun x : S106 => (x.f0, x.f1, x.f2, x.f3, x.f4, x.f5, x.f6, x.f7, x.f8)) (fun y => ⟨y.1, y.2.1, y.2.2.1, y.2.2.2.1, y.2.2.2.2.1, y.2.2.2.2.2.1, y.2.2.2.2.2.2.1, y.2.2.2.2.2.2.2.1, y.2.2.2.2.2.2.2.2⟩) (fun _ => rfl) (opens_struct Try.underlying106 rfl (by kernel_rfl) (opensF_cons (opens_int Try.underlying2) rfl (by kernel_rfl) (opensF_cons (opens_int Try.underlying2) rfl (by kernel_rfl) (opensF_cons (opens_int Try.underlying2) rfl (by kernel_rfl) (opensF_cons (opens_int Try.underlying2) rfl (by kernel_rfl) (opensF_cons (opens_int Try.underlying2) rfl (by kernel_rfl) (opensF_cons (opens_int Try.underlying2) rfl (by kernel_rfl) (opensF_cons (opens_slice Try.underlying104 (by kernel_rfl) o118) rfl (by kernel_rfl) (opensF_cons (opens_slice Try.underlying24 (by kernel_rfl) (opens_int Try.underlying2)) rfl (by kernel_rfl) (opensF_one (opens_slice Try.underlying56 (by kernel_rfl) (opens_int Try.underlying49)) rfl (by kernel_rfl)))))))))))
  exact h
def q87 (x : S87) : Prop := (x.f0.length ≤ maxLen ∧ ∀ y ∈ x.f0, q106 y)
theorem o87 : Opens Try.prog k87 q87 87 := by
  have h := opens_iso (fun x : S87 => x.f0) (fun y => ⟨y⟩) (fun _ => rfl) (opens_struct Try.underlying87 rfl (by kernel_rfl) (opensF_one (opens_slice Try.underlying85 (by kernel_rfl) o106) rfl (by kernel_rfl)))
  exact h
/-- The pure statement. -/
def laws_FnExactResultOf.Pure : Prop := ∀ (a0_0 : ByteArray) (a0_1 : Int) (l0_2 : List Int) (a0_3 : Int) (l0_4 : List S87) (a1 : Int) (a2 : Int), a0_0.size ≤ maxLen → (Lit.int .i64 a0_1).wf = true → (l0_2.length ≤ maxLen ∧ ∀ y ∈ l0_2, (Lit.int .i64 y).wf = true) → (Lit.int .i64 a0_3).wf = true → (l0_4.length ≤ maxLen ∧ ∀ y ∈ l0_4, q87 y) → (Lit.int .i64 a1).wf = true → (Lit.int .i64 a2).wf = true → ∃ k, laws_FnExactResultOf.f k a0_0 a0_1 l0_2 a0_3 l0_4 a1 a2 = some true
end Go.Proofs.Ytnogjankhacdpaa.OpenFnExactResultOf
