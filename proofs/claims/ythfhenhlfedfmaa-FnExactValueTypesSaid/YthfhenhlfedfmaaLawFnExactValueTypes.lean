/- The row of FnExactValueTypes: for every argument the law returns true, and its arguments read as they did. -/
import Derived.Test.YthfhenhlfedfmaaRows
import Derived.Test.YthfhenhlfedfmaaPureFnExactValueTypes
import Derived.WalkKit
import Derived.ProofKit
import Derived.OpenShut
import Derived.ShutString
import Derived.ChangeOld
import Derived.Below
import Derived.SizedLaws
namespace Go.Proofs.Ythfhenhlfedfmaa.fnExactValueTypes
open Go.ChangeShapes Go.WideShapes Go.ChangeAt Go.RowKit Go.Proofs.Ythfhenhlfedfmaa.QFnExactValueTypes Go.Proofs.Ythfhenhlfedfmaa.OpenFnExactValueTypes Go.Proofs.YthfhenhlfedfmaaW.PrintWords Go.Proofs.YthfhenhlfedfmaaW.PrintLast Go.Proofs.YthfhenhlfedfmaaW.PrintMore Go.Proofs.Ythfhenhlfedfmaa.RowOpen
open Go.ChangeMaps (open_string shut_string)
set_option linter.unusedVariables false
set_option linter.unusedSimpArgs false
theorem own : ownKnob Try.prog.godebug = none := by kernel_rfl
theorem laidOut : laidOutB Try.prog = true := by kernel_rfl
theorem oP0 : Opens Try.prog (Kd.pair Kd.string (Kd.pair (Kd.int .i64) (Kd.pair (Kd.slice 2 (Kd.int .i64)) (Kd.pair (Kd.int .i64) (Kd.slice 132 k132))))) (fun z => (z.1.size ≤ maxLen ∧ ((Lit.int .i64 z.2.1).wf = true ∧ ((z.2.2.1.length ≤ maxLen ∧ ∀ y ∈ z.2.2.1, (Lit.int .i64 y).wf = true) ∧ ((Lit.int .i64 z.2.2.2.1).wf = true ∧ (z.2.2.2.2.length ≤ maxLen ∧ ∀ y ∈ z.2.2.2.2, q132 y)))))) 25 := by
  have h := (opens_struct Try.underlying25 rfl (by kernel_rfl) (opensF_cons (opens_string Try.underlying9) rfl (by kernel_rfl) (opensF_cons (opens_int Try.underlying2) rfl (by kernel_rfl) (opensF_cons (opens_slice Try.underlying22 (by kernel_rfl) (opens_int Try.underlying2)) rfl (by kernel_rfl) (opensF_cons (opens_int Try.underlying2) rfl (by kernel_rfl) (opensF_one (opens_slice Try.underlying23 (by kernel_rfl) o132) rfl (by kernel_rfl)))))))
  exact h
set_option maxRecDepth 100000 in
theorem lifted (os : Os) (started : os.Started) (H : Type) (enc : TypeId × Value → H) :
    ReturnsInHanded {} Try.checked os 3 .any (Rows.fnExactValueTypesSpec.pre6 enc Try.prog Try.f3 Rows.fnExactValueTypesRow.domain false) (Rows.fnExactValueTypesSpec.post enc Try.prog Try.f3 false true false false) := by
  refine returnsInHanded_of_change_sized (C := Try.checked) own started (by kernel_rfl) Try.func3
    (ChangeSpec.witness6 (enc := enc) (C := Try.checked) false ⟨#[], #[.agg #[.string ByteArray.empty, .int .i64 0, .slice none 0 0, .int .i64 0, .slice none 0 0]], []⟩ 8 (by kernel_rfl) (by kernel_rfl) (by kernel_rfl) (by kernel_rfl)) ?_
  intro W base args ds gs before hval0 hW hcnd hsz0 _
  have hval : ∀ (j : Nat) t v, Try.f3.params[j]? = some t → args[j]? = some v → Value.okWide Try.prog W .any base t v := hval0
  have hW' := hW
  obtain ⟨p, q, hA0, hV, rfl, hfz, hnd⟩ := hW
  have hA : DataW.TrodAll enc Try.prog W 0 (fun _ => true) true Try.f3.params.toList args.toList ds p := hA0
  rw [Try.params3] at hA hval
  obtain ⟨v0, vs0, d0, ds0, p0, q0, hargs, rfl, rfl, h0, r0⟩ := trodAll_cons hA
  obtain ⟨rfl, rfl, rfl⟩ := trodAll_nil r0
  obtain rfl : args = #[v0] := by cases args; simp_all
  obtain ⟨rfl, rfl⟩ := trodVars_none hV
  have k0 := h0
  have lt0 : ∀ x ∈ p0, x.block < W.heap.size := by obtain ⟨m, hm⟩ := k0; exact DataW.trod_lt m _ _ _ hm
  obtain ⟨⟨a0_0, a0_1, l0_2, a0_3, l0_4⟩, cs0, rfl, hk0, hq0⟩ := open_param oP0 Try.underlying25 (hval 0 25 v0 rfl rfl) h0
  obtain ⟨_, _, e0_, rfl, ⟨_, _, rfl, rfl, ⟨_, _, rfl, ⟨A0_2, c0_2, rfl, l_0_2, g_0_2⟩, ⟨_, _, rfl, rfl, ⟨A0_4, c0_4, rfl, l_0_4, g_0_4⟩⟩⟩⟩⟩ := hk0
  obtain rfl : cs0 = #[.string a0_0, .int .i64 a0_1, .slice A0_2 l0_2.length c0_2, .int .i64 a0_3, .slice A0_4 l0_4.length c0_4] := by rw [show cs0 = _ from array_of_list e0_]; rfl
  obtain ⟨w_0_0, w_0_1, w_0_2, w_0_3, w_0_4⟩ := hq0
  obtain ⟨k, h⟩ := Pure.FnExactValueTypes _ _ _ _ _ w_0_0 w_0_1 w_0_2 w_0_3 w_0_4
  (try clear hsz0)
  (try clear hval0)
  (try clear hA0)
  refine (laws_FnExactValueTypes.calls k _ _ _ _ _ _ _ _ _ true W g_0_2 l_0_2 g_0_4 l_0_4 h ⟨rfl⟩).mono fun e W' ⟨he, bel⟩ => ?_
  subst he
  exact ⟨_, rfl, _, _, _, [], _, [], hW', trodAll_mk1 (shut_bool Try.underlying4 _), (trodAll_cons_mk (Below.trod laidOut (by kernel_rfl) (of_decide_eq_true (by kernel_rfl)) k0 bel lt0) trodAll_mk0), rfl, bel.frame _, fun h => by cases h⟩
theorem over : Rows.fnExactValueTypesRow.holds Try.pinned (OpenSpec.ofChange Rows.fnExactValueTypesSpec) :=
  OpenClaim.holds_of_wide 3 Try.f3 rfl rfl rfl rfl rfl rfl rfl ⟨rfl, rfl, rfl, rfl, rfl⟩ rfl rfl rfl rfl rfl (by kernel_rfl) Try.func3 (by kernel_rfl)
    (of_decide_eq_true (by kernel_rfl)) (by unfold Func.isWrapper; first | (rw [if_pos (by decide +kernel)]; kernel_rfl) | (rw [if_neg (by decide +kernel)]; exact ⟨rfl, rfl⟩))
    (fun os started H enc _ => lifted os started H enc)
theorem proved : Rows.FnExactValueTypesSaid := over
#print axioms proved
end Go.Proofs.Ythfhenhlfedfmaa.fnExactValueTypes
namespace Go.Proofs.Ythfhenhlfedfmaa
/-- The row, under a short name, for the claim. -/
theorem fnExactValueTypes_holds : Rows.FnExactValueTypesSaid := fnExactValueTypes.proved
end Go.Proofs.Ythfhenhlfedfmaa
