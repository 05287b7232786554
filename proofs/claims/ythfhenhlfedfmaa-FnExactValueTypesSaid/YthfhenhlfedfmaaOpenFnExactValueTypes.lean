/- What the law's arguments hold, opened; the pure statement that is left; and the walk under it. -/
import Derived.Test.YthfhenhlfedfmaaQFnExactValueTypesx8
import Derived.Test.YthfhenhlfedfmaaRowOpen
import Derived.WalkKit
import Derived.ProofKit
namespace Go.Proofs.Ythfhenhlfedfmaa.OpenFnExactValueTypes
open Go.RowKit Go.Proofs.Ythfhenhlfedfmaa.QFnExactValueTypes Go.Proofs.YthfhenhlfedfmaaW.PrintWords Go.Proofs.YthfhenhlfedfmaaW.PrintLast Go.Proofs.YthfhenhlfedfmaaW.PrintMore Go.Proofs.Ythfhenhlfedfmaa.RowOpen
set_option linter.unusedVariables false
set_option linter.unusedSimpArgs false
def q157 (x : S157) : Prop := (Lit.int .i64 x.f0).wf = true ∧ (Lit.int .i64 x.f1).wf = true ∧ (Lit.int .i64 x.f2).wf = true ∧ (Lit.int .u64 x.f3).wf = true
theorem o157 : Opens Try.prog k157 q157 157 := by
  have h := opens_iso (fun x : S157 => (x.f0, x.f1, x.f2, x.f3)) (fun y => ⟨y.1, y.2.1, y.2.2.1, y.2.2.2⟩) (fun _ => rfl) (opens_struct Try.underlying157 rfl (by kernel_rfl) (opensF_cons (opens_int Try.underlying2) rfl (by kernel_rfl) (opensF_cons (opens_int Try.underlying2) rfl (by kernel_rfl) (opensF_cons (opens_int Try.underlying2) rfl (by kernel_rfl) (opensF_one (opens_int Try.underlying38) rfl (by kernel_rfl))))))
  exact h
def q148 (x : S148) : Prop := (Lit.int .i64 x.f0).wf = true ∧ (Lit.int .i64 x.f1).wf = true ∧ (Lit.int .i64 x.f2).wf = true ∧ (Lit.int .i64 x.f3).wf = true ∧ (Lit.int .i64 x.f4).wf = true ∧ (Lit.int .i64 x.f5).wf = true ∧ (x.f6.length ≤ maxLen ∧ ∀ y ∈ x.f6, q157 y) ∧ (x.f7.length ≤ maxLen ∧ ∀ y ∈ x.f7, (Lit.int .i64 y).wf = true) ∧ (x.f8.length ≤ maxLen ∧ ∀ y ∈ x.f8, (Lit.int .u64 y).wf = true)
theorem o148 : Opens Try.prog k148 q148 148 := by
  have h := opens_iso (fun x : S148 => (x.f0, x.f1, x.f2, x.f3, x.f4, x.f5, x.f6, x.f7, x.f8)) (fun y => ⟨y.1, y.2.1, y.2.2.1, y.2.2.2.1, y.2.2.2.2.1, y.2.2.2.2.2.1, y.2.2.2.2.2.2.1, y.2.2.2.2.2.2.2.1, y.2.2.2.2.2.2.2.2⟩) (fun _ => rfl) (opens_struct Try.underlying148 rfl (by kernel_rfl) (opensF_cons (opens_int Try.underlying2) rfl (by kernel_rfl) (opensF_cons (opens_int Try.underlying2) rfl (by kernel_rfl) (opensF_cons (opens_int Try.underlying2) rfl (by kernel_rfl) (opensF_cons (opens_int Try.underlying2) rfl (by kernel_rfl) (opensF_cons (opens_int Try.underlying2) rfl (by kernel_rfl) (opensF_cons (opens_int Try.underlying2) rfl (by kernel_rfl) (opensF_cons (opens_slice Try.underlying146 (by kernel_rfl) o157) rfl (by kernel_rfl) (opensF_cons (opens_slice Try.underlying22 (by kernel_rfl) (opens_int Try.underlying2)) rfl (by kernel_rfl) (opensF_one (opens_slice Try.underlying51 (by kernel_rfl) (opens_int Try.underlying38)) rfl (by kernel_rfl)))))))))))
  exact h
def q132 (x : S132) : Prop := (x.f0.length ≤ maxLen ∧ ∀ y ∈ x.f0, q148 y)
theorem o132 : Opens Try.prog k132 q132 132 := by
  have h := opens_iso (fun x : S132 => x.f0) (fun y => ⟨y⟩) (fun _ => rfl) (opens_struct Try.underlying132 rfl (by kernel_rfl) (opensF_one (opens_slice Try.underlying130 (by kernel_rfl) o148) rfl (by kernel_rfl)))
  exact h
/-- The pure statement. -/
def laws_FnExactValueTypes.Pure : Prop := ∀ (a0_0 : ByteArray) (a0_1 : Int) (l0_2 : List Int) (a0_3 : Int) (l0_4 : List S132), a0_0.size ≤ maxLen → (Lit.int .i64 a0_1).wf = true → (l0_2.length ≤ maxLen ∧ ∀ y ∈ l0_2, (Lit.int .i64 y).wf = true) → (Lit.int .i64 a0_3).wf = true → (l0_4.length ≤ maxLen ∧ ∀ y ∈ l0_4, q132 y) → ∃ k, laws_FnExactValueTypes.f k a0_0 a0_1 l0_2 a0_3 l0_4 = some true
end Go.Proofs.Ythfhenhlfedfmaa.OpenFnExactValueTypes
