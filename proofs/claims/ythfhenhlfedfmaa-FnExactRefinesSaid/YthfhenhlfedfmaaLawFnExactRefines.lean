/- The row of FnExactRefines: for every argument the law returns true, and its arguments read as they did. -/
import Derived.Test.YthfhenhlfedfmaaRows
import Derived.Test.YthfhenhlfedfmaaPureFnExactRefines
import Derived.WalkKit
import Derived.ProofKit
import Derived.OpenShut
import Derived.ShutString
import Derived.ChangeOld
import Derived.Below
import Derived.SizedLaws
namespace Go.Proofs.Ythfhenhlfedfmaa.fnExactRefines
open Go.ChangeShapes Go.WideShapes Go.ChangeAt Go.RowKit Go.Proofs.Ythfhenhlfedfmaa.QFnExactRefines Go.Proofs.Ythfhenhlfedfmaa.OpenFnExactRefines Go.Proofs.YthfhenhlfedfmaaW.PrintWords Go.Proofs.YthfhenhlfedfmaaW.PrintLast Go.Proofs.YthfhenhlfedfmaaW.PrintMore Go.Proofs.Ythfhenhlfedfmaa.RowOpen
open Go.ChangeMaps (open_string shut_string)
set_option linter.unusedVariables false
set_option linter.unusedSimpArgs false
theorem own : ownKnob Try.prog.godebug = none := by kernel_rfl
theorem laidOut : laidOutB Try.prog = true := by kernel_rfl
theorem oP0 : Opens Try.prog (Kd.pair (Kd.int .i64) (Kd.pair (Kd.pair Kd.bool (Kd.pair (Kd.int .i64) (Kd.int .u64))) (Kd.pair (Kd.slice 38 (Kd.int .u64)) (Kd.int .i64)))) (fun z => ((Lit.int .i64 z.1).wf = true ∧ ((True ∧ ((Lit.int .i64 z.2.1.2.1).wf = true ∧ (Lit.int .u64 z.2.1.2.2).wf = true)) ∧ ((z.2.2.1.length ≤ maxLen ∧ ∀ y ∈ z.2.2.1, (Lit.int .u64 y).wf = true) ∧ (Lit.int .i64 z.2.2.2).wf = true)))) 79 := by
  have h := (opens_struct Try.underlying79 rfl (by kernel_rfl) (opensF_cons (opens_int Try.underlying2) rfl (by kernel_rfl) (opensF_cons (opens_struct Try.underlying77 rfl (by kernel_rfl) (opensF_cons (opens_bool Try.underlying4) rfl (by kernel_rfl) (opensF_cons (opens_int Try.underlying2) rfl (by kernel_rfl) (opensF_one (opens_int Try.underlying38) rfl (by kernel_rfl))))) rfl (by kernel_rfl) (opensF_cons (opens_slice Try.underlying51 (by kernel_rfl) (opens_int Try.underlying38)) rfl (by kernel_rfl) (opensF_one (opens_int Try.underlying2) rfl (by kernel_rfl))))))
  exact h
theorem oP1 : Opens Try.prog (Kd.pair (Kd.int .i64) (Kd.pair (Kd.pair Kd.bool (Kd.pair (Kd.int .i64) (Kd.int .u64))) (Kd.pair (Kd.slice 38 (Kd.int .u64)) (Kd.int .i64)))) (fun z => ((Lit.int .i64 z.1).wf = true ∧ ((True ∧ ((Lit.int .i64 z.2.1.2.1).wf = true ∧ (Lit.int .u64 z.2.1.2.2).wf = true)) ∧ ((z.2.2.1.length ≤ maxLen ∧ ∀ y ∈ z.2.2.1, (Lit.int .u64 y).wf = true) ∧ (Lit.int .i64 z.2.2.2).wf = true)))) 79 := by
  have h := (opens_struct Try.underlying79 rfl (by kernel_rfl) (opensF_cons (opens_int Try.underlying2) rfl (by kernel_rfl) (opensF_cons (opens_struct Try.underlying77 rfl (by kernel_rfl) (opensF_cons (opens_bool Try.underlying4) rfl (by kernel_rfl) (opensF_cons (opens_int Try.underlying2) rfl (by kernel_rfl) (opensF_one (opens_int Try.underlying38) rfl (by kernel_rfl))))) rfl (by kernel_rfl) (opensF_cons (opens_slice Try.underlying51 (by kernel_rfl) (opens_int Try.underlying38)) rfl (by kernel_rfl) (opensF_one (opens_int Try.underlying2) rfl (by kernel_rfl))))))
  exact h
set_option maxRecDepth 100000 in
theorem lifted (os : Os) (started : os.Started) (H : Type) (enc : TypeId × Value → H) :
    ReturnsInHanded {} Try.checked os 12 .any (Rows.fnExactRefinesSpec.pre6 enc Try.prog Try.f12 Rows.fnExactRefinesRow.domain false) (Rows.fnExactRefinesSpec.post enc Try.prog Try.f12 false true false false) := by
  refine returnsInHanded_of_change_sized (C := Try.checked) own started (by kernel_rfl) Try.func12
    (ChangeSpec.witness6 (enc := enc) (C := Try.checked) false ⟨#[], #[.agg #[.int .i64 0, .bool false, .int .i64 0, .int .u64 0, .slice none 0 0, .int .i64 0], .agg #[.int .i64 0, .bool false, .int .i64 0, .int .u64 0, .slice none 0 0, .int .i64 0]], []⟩ 8 (by kernel_rfl) (by kernel_rfl) (by kernel_rfl) (by kernel_rfl)) ?_
  intro W base args ds gs before hval0 hW hcnd hsz0 _
  have hval : ∀ (j : Nat) t v, Try.f12.params[j]? = some t → args[j]? = some v → Value.okWide Try.prog W .any base t v := hval0
  have hW' := hW
  obtain ⟨p, q, hA0, hV, rfl, hfz, hnd⟩ := hW
  have hA : DataW.TrodAll enc Try.prog W 0 (fun _ => true) true Try.f12.params.toList args.toList ds p := hA0
  rw [Try.params12] at hA hval
  obtain ⟨v0, vs0, d0, ds0, p0, q0, hargs, rfl, rfl, h0, r0⟩ := trodAll_cons hA
  obtain ⟨v1, vs1, d1, ds1, p1, q1, rfl, rfl, rfl, h1, r1⟩ := trodAll_cons r0
  obtain ⟨rfl, rfl, rfl⟩ := trodAll_nil r1
  obtain rfl : args = #[v0, v1] := by cases args; simp_all
  obtain ⟨rfl, rfl⟩ := trodVars_none hV
  have k0 := h0
  have lt0 : ∀ x ∈ p0, x.block < W.heap.size := by obtain ⟨m, hm⟩ := k0; exact DataW.trod_lt m _ _ _ hm
  obtain ⟨⟨a0_0, ⟨a0_1, a0_2, a0_3⟩, l0_4, a0_5⟩, cs0, rfl, hk0, hq0⟩ := open_param oP0 Try.underlying79 (hval 0 79 v0 rfl rfl) h0
  obtain ⟨_, _, e0_, rfl, ⟨_, _, rfl, ⟨_, _, rfl, rfl, ⟨_, _, rfl, rfl, rfl⟩⟩, ⟨_, _, rfl, ⟨A0_4, c0_4, rfl, l_0_4, g_0_4⟩, rfl⟩⟩⟩ := hk0
  obtain rfl : cs0 = #[.int .i64 a0_0, .bool a0_1, .int .i64 a0_2, .int .u64 a0_3, .slice A0_4 l0_4.length c0_4, .int .i64 a0_5] := by rw [show cs0 = _ from array_of_list e0_]; rfl
  obtain ⟨w_0_0, ⟨w_0_1, w_0_2, w_0_3⟩, w_0_4, w_0_5⟩ := hq0
  have k1 := h1
  have lt1 : ∀ x ∈ p1, x.block < W.heap.size := by obtain ⟨m, hm⟩ := k1; exact DataW.trod_lt m _ _ _ hm
  obtain ⟨⟨a1_0, ⟨a1_1, a1_2, a1_3⟩, l1_4, a1_5⟩, cs1, rfl, hk1, hq1⟩ := open_param oP1 Try.underlying79 (hval 1 79 v1 rfl rfl) h1
  obtain ⟨_, _, e1_, rfl, ⟨_, _, rfl, ⟨_, _, rfl, rfl, ⟨_, _, rfl, rfl, rfl⟩⟩, ⟨_, _, rfl, ⟨A1_4, c1_4, rfl, l_1_4, g_1_4⟩, rfl⟩⟩⟩ := hk1
  obtain rfl : cs1 = #[.int .i64 a1_0, .bool a1_1, .int .i64 a1_2, .int .u64 a1_3, .slice A1_4 l1_4.length c1_4, .int .i64 a1_5] := by rw [show cs1 = _ from array_of_list e1_]; rfl
  obtain ⟨w_1_0, ⟨w_1_1, w_1_2, w_1_3⟩, w_1_4, w_1_5⟩ := hq1
  obtain ⟨k, h⟩ := Pure.FnExactRefines _ _ _ _ _ _ _ _ _ _ _ _ w_0_0 w_0_2 w_0_3 w_0_4 w_0_5 w_1_0 w_1_2 w_1_3 w_1_4 w_1_5
  (try clear hsz0)
  (try clear hval0)
  (try clear hA0)
  refine (laws_FnExactRefines.calls k _ _ _ _ _ _ _ _ _ _ _ _ _ _ _ _ true W g_0_4 l_0_4 g_1_4 l_1_4 h ⟨rfl⟩).mono fun e W' ⟨he, bel⟩ => ?_
  subst he
  exact ⟨_, rfl, _, _, _, [], _, [], hW', trodAll_mk1 (shut_bool Try.underlying4 _), (trodAll_cons_mk (Below.trod laidOut (by kernel_rfl) (of_decide_eq_true (by kernel_rfl)) k0 bel lt0) (trodAll_cons_mk (Below.trod laidOut (by kernel_rfl) (of_decide_eq_true (by kernel_rfl)) k1 bel lt1) trodAll_mk0)), rfl, bel.frame _, fun h => by cases h⟩
theorem over : Rows.fnExactRefinesRow.holds Try.pinned (OpenSpec.ofChange Rows.fnExactRefinesSpec) :=
  OpenClaim.holds_of_wide 12 Try.f12 rfl rfl rfl rfl rfl rfl rfl ⟨rfl, rfl, rfl, rfl, rfl⟩ rfl rfl rfl rfl rfl (by kernel_rfl) Try.func12 (by kernel_rfl)
    (of_decide_eq_true (by kernel_rfl)) (by unfold Func.isWrapper; first | (rw [if_pos (by decide +kernel)]; kernel_rfl) | (rw [if_neg (by decide +kernel)]; exact ⟨rfl, rfl⟩))
    (fun os started H enc _ => lifted os started H enc)
theorem proved : Rows.FnExactRefinesSaid := over
#print axioms proved
end Go.Proofs.Ythfhenhlfedfmaa.fnExactRefines
namespace Go.Proofs.Ythfhenhlfedfmaa
/-- The row, under a short name, for the claim. -/
theorem fnExactRefines_holds : Rows.FnExactRefinesSaid := fnExactRefines.proved
end Go.Proofs.Ythfhenhlfedfmaa
