/- The row of FnExactEncodeIns: for every argument the law returns true, and its arguments read as they did. -/
import Derived.Test.YtcjdgimiobhhnaaRows
import Derived.Test.YtcjdgimiobhhnaaPureFnExactEncodeIns
import Derived.WalkKit
import Derived.ProofKit
import Derived.OpenShut
import Derived.ShutString
import Derived.ChangeOld
import Derived.Below
import Derived.SizedLaws
namespace Go.Proofs.Ytcjdgimiobhhnaa.fnExactEncodeIns
open Go.ChangeShapes Go.WideShapes Go.ChangeAt Go.RowKit Go.Proofs.Ytcjdgimiobhhnaa.QFnExactEncodeIns Go.Proofs.Ytcjdgimiobhhnaa.OpenFnExactEncodeIns Go.Proofs.YtcjdgimiobhhnaaW.PrintWords Go.Proofs.YtcjdgimiobhhnaaW.PrintLast Go.Proofs.YtcjdgimiobhhnaaW.PrintMore Go.Proofs.Ytcjdgimiobhhnaa.RowOpen
open Go.ChangeMaps (open_string shut_string)
set_option linter.unusedVariables false
set_option linter.unusedSimpArgs false
theorem own : ownKnob Try.prog.godebug = none := by kernel_rfl
theorem laidOut : laidOutB Try.prog = true := by kernel_rfl
theorem oP0 : Opens Try.prog (Kd.pair (Kd.int .i64) (Kd.pair (Kd.int .i64) (Kd.pair (Kd.int .i64) (Kd.pair (Kd.int .i64) (Kd.int .i64))))) (fun z => ((Lit.int .i64 z.1).wf = true ∧ ((Lit.int .i64 z.2.1).wf = true ∧ ((Lit.int .i64 z.2.2.1).wf = true ∧ ((Lit.int .i64 z.2.2.2.1).wf = true ∧ (Lit.int .i64 z.2.2.2.2).wf = true))))) 39 := by
  have h := (opens_struct Try.underlying39 rfl (by kernel_rfl) (opensF_cons (opens_int Try.underlying2) rfl (by kernel_rfl) (opensF_cons (opens_int Try.underlying2) rfl (by kernel_rfl) (opensF_cons (opens_int Try.underlying2) rfl (by kernel_rfl) (opensF_cons (opens_int Try.underlying2) rfl (by kernel_rfl) (opensF_one (opens_int Try.underlying2) rfl (by kernel_rfl)))))))
  exact h
set_option maxRecDepth 100000 in
theorem lifted (os : Os) (started : os.Started) (H : Type) (enc : TypeId × Value → H) :
    ReturnsInHanded {} Try.checked os 5 .any (Rows.fnExactEncodeInsSpec.pre6 enc Try.prog Try.f5 Rows.fnExactEncodeInsRow.domain false) (Rows.fnExactEncodeInsSpec.post enc Try.prog Try.f5 false true false false) := by
  refine returnsInHanded_of_change_sized (C := Try.checked) own started (by kernel_rfl) Try.func5
    (ChangeSpec.witness6 (enc := enc) (C := Try.checked) false ⟨#[], #[.agg #[.int .i64 0, .int .i64 0, .int .i64 0, .int .i64 0, .int .i64 0]], []⟩ 8 (by kernel_rfl) (by kernel_rfl) (by kernel_rfl) (by kernel_rfl)) ?_
  intro W base args ds gs before hval0 hW hcnd hsz0 _
  have hval : ∀ (j : Nat) t v, Try.f5.params[j]? = some t → args[j]? = some v → Value.okWide Try.prog W .any base t v := hval0
  have hW' := hW
  obtain ⟨p, q, hA0, hV, rfl, hfz, hnd⟩ := hW
  have hA : DataW.TrodAll enc Try.prog W 0 (fun _ => true) true Try.f5.params.toList args.toList ds p := hA0
  rw [Try.params5] at hA hval
  obtain ⟨v0, vs0, d0, ds0, p0, q0, hargs, rfl, rfl, h0, r0⟩ := trodAll_cons hA
  obtain ⟨rfl, rfl, rfl⟩ := trodAll_nil r0
  obtain rfl : args = #[v0] := by cases args; simp_all
  obtain ⟨rfl, rfl⟩ := trodVars_none hV
  have k0 := h0
  have lt0 : ∀ x ∈ p0, x.block < W.heap.size := by obtain ⟨m, hm⟩ := k0; exact DataW.trod_lt m _ _ _ hm
  obtain ⟨⟨a0_0, a0_1, a0_2, a0_3, a0_4⟩, cs0, rfl, hk0, hq0⟩ := open_param oP0 Try.underlying39 (hval 0 39 v0 rfl rfl) h0
  obtain ⟨_, _, e0_, rfl, ⟨_, _, rfl, rfl, ⟨_, _, rfl, rfl, ⟨_, _, rfl, rfl, rfl⟩⟩⟩⟩ := hk0
  obtain rfl : cs0 = #[.int .i64 a0_0, .int .i64 a0_1, .int .i64 a0_2, .int .i64 a0_3, .int .i64 a0_4] := by rw [show cs0 = _ from array_of_list e0_]; rfl
  obtain ⟨w_0_0, w_0_1, w_0_2, w_0_3, w_0_4⟩ := hq0
  obtain ⟨k, h⟩ := Pure.FnExactEncodeIns _ _ _ _ _ w_0_0 w_0_1 w_0_2 w_0_3 w_0_4
  (try clear hsz0)
  (try clear hval0)
  (try clear hA0)
  refine (laws_FnExactEncodeIns.calls k _ _ _ _ _ true W h ⟨rfl⟩).mono fun e W' ⟨he, bel⟩ => ?_
  subst he
  exact ⟨_, rfl, _, _, _, [], _, [], hW', trodAll_mk1 (shut_bool Try.underlying4 _), (trodAll_cons_mk (Below.trod laidOut (by kernel_rfl) (of_decide_eq_true (by kernel_rfl)) k0 bel lt0) trodAll_mk0), rfl, bel.frame _, fun h => by cases h⟩
theorem over : Rows.fnExactEncodeInsRow.holds Try.pinned (OpenSpec.ofChange Rows.fnExactEncodeInsSpec) :=
  OpenClaim.holds_of_wide 5 Try.f5 rfl rfl rfl rfl rfl rfl rfl ⟨rfl, rfl, rfl, rfl, rfl⟩ rfl rfl rfl rfl rfl (by kernel_rfl) Try.func5 (by kernel_rfl)
    (of_decide_eq_true (by kernel_rfl)) (by unfold Func.isWrapper; first | (rw [if_pos (by decide +kernel)]; kernel_rfl) | (rw [if_neg (by decide +kernel)]; exact ⟨rfl, rfl⟩))
    (fun os started H enc _ => lifted os started H enc)
theorem proved : Rows.FnExactEncodeInsSaid := over
#print axioms proved
end Go.Proofs.Ytcjdgimiobhhnaa.fnExactEncodeIns
namespace Go.Proofs.Ytcjdgimiobhhnaa
/-- The row, under a short name, for the claim. -/
theorem fnExactEncodeIns_holds : Rows.FnExactEncodeInsSaid := fnExactEncodeIns.proved
end Go.Proofs.Ytcjdgimiobhhnaa
