/- The row of FnExactPutVar: for every argument the law returns true, and its arguments read as they did. -/
import Derived.Test.YtcjdgimiobhhnaaRows
import Derived.Test.YtcjdgimiobhhnaaPureFnExactPutVar
import Derived.WalkKit
import Derived.ProofKit
import Derived.OpenShut
import Derived.ShutString
import Derived.ChangeOld
import Derived.Below
import Derived.SizedLaws
namespace Go.Proofs.Ytcjdgimiobhhnaa.fnExactPutVar
open Go.ChangeShapes Go.WideShapes Go.ChangeAt Go.RowKit Go.Proofs.Ytcjdgimiobhhnaa.QFnExactPutVar Go.Proofs.Ytcjdgimiobhhnaa.OpenFnExactPutVar Go.Proofs.YtcjdgimiobhhnaaW.PrintWords Go.Proofs.YtcjdgimiobhhnaaW.PrintLast Go.Proofs.YtcjdgimiobhhnaaW.PrintMore Go.Proofs.Ytcjdgimiobhhnaa.RowOpen
open Go.ChangeMaps (open_string shut_string)
set_option linter.unusedVariables false
set_option linter.unusedSimpArgs false
theorem own : ownKnob Try.prog.godebug = none := by kernel_rfl
theorem laidOut : laidOutB Try.prog = true := by kernel_rfl
theorem oP0 : Opens Try.prog (Kd.pair (Kd.slice 5 (Kd.int .u8)) (Kd.int .i64)) (fun z => ((z.1.length ≤ maxLen ∧ ∀ y ∈ z.1, (Lit.int .u8 y).wf = true) ∧ (Lit.int .i64 z.2).wf = true)) 24 := by
  have h := (opens_struct Try.underlying24 rfl (by kernel_rfl) (opensF_cons (opens_slice Try.underlying22 (by kernel_rfl) (opens_int Try.underlying5)) rfl (by kernel_rfl) (opensF_one (opens_int Try.underlying2) rfl (by kernel_rfl))))
  exact h
set_option maxRecDepth 100000 in
theorem lifted (os : Os) (started : os.Started) (H : Type) (enc : TypeId × Value → H) :
    ReturnsInHanded {} Try.checked os 6 .any (Rows.fnExactPutVarSpec.pre6 enc Try.prog Try.f6 Rows.fnExactPutVarRow.domain false) (Rows.fnExactPutVarSpec.post enc Try.prog Try.f6 false true false false) := by
  refine returnsInHanded_of_change_sized (C := Try.checked) own started (by kernel_rfl) Try.func6
    (ChangeSpec.witness6 (enc := enc) (C := Try.checked) false ⟨#[], #[.agg #[.slice none 0 0, .int .i64 0], .int .u64 0, .int .i64 0], []⟩ 8 (by kernel_rfl) (by kernel_rfl) (by kernel_rfl) (by kernel_rfl)) ?_
  intro W base args ds gs before hval0 hW hcnd hsz0 _
  have hval : ∀ (j : Nat) t v, Try.f6.params[j]? = some t → args[j]? = some v → Value.okWide Try.prog W .any base t v := hval0
  have hW' := hW
  obtain ⟨p, q, hA0, hV, rfl, hfz, hnd⟩ := hW
  have hA : DataW.TrodAll enc Try.prog W 0 (fun _ => true) true Try.f6.params.toList args.toList ds p := hA0
  rw [Try.params6] at hA hval
  obtain ⟨v0, vs0, d0, ds0, p0, q0, hargs, rfl, rfl, h0, r0⟩ := trodAll_cons hA
  obtain ⟨v1, vs1, d1, ds1, p1, q1, rfl, rfl, rfl, h1, r1⟩ := trodAll_cons r0
  obtain ⟨v2, vs2, d2, ds2, p2, q2, rfl, rfl, rfl, h2, r2⟩ := trodAll_cons r1
  obtain ⟨rfl, rfl, rfl⟩ := trodAll_nil r2
  obtain rfl : args = #[v0, v1, v2] := by cases args; simp_all
  obtain ⟨rfl, rfl⟩ := trodVars_none hV
  have k0 := h0
  have lt0 : ∀ x ∈ p0, x.block < W.heap.size := by obtain ⟨m, hm⟩ := k0; exact DataW.trod_lt m _ _ _ hm
  obtain ⟨⟨l0_0, a0_1⟩, cs0, rfl, hk0, hq0⟩ := open_param oP0 Try.underlying24 (hval 0 24 v0 rfl rfl) h0
  obtain ⟨_, _, e0_, ⟨A0_0, c0_0, rfl, l_0_0, g_0_0⟩, rfl⟩ := hk0
  obtain rfl : cs0 = #[.slice A0_0 l0_0.length c0_0, .int .i64 a0_1] := by rw [show cs0 = _ from array_of_list e0_]; rfl
  obtain ⟨w_0_0, w_0_1⟩ := hq0
  obtain ⟨a1, rfl, rfl, rfl, w_1⟩ := open_int Try.underlying25 (hval 1 25 v1 rfl rfl) h1
  obtain ⟨a2, rfl, rfl, rfl, w_2⟩ := open_int Try.underlying2 (hval 2 2 v2 rfl rfl) h2
  obtain ⟨k, h⟩ := Pure.FnExactPutVar _ _ _ _ w_0_0 w_0_1 w_1 w_2
  (try clear hsz0)
  (try clear hval0)
  (try clear hA0)
  refine (laws_FnExactPutVar.calls k _ _ _ _ _ _ true W g_0_0 l_0_0 h ⟨rfl⟩).mono fun e W' ⟨he, bel⟩ => ?_
  subst he
  exact ⟨_, rfl, _, _, _, [], _, [], hW', trodAll_mk1 (shut_bool Try.underlying4 _), (trodAll_cons_mk (Below.trod laidOut (by kernel_rfl) (of_decide_eq_true (by kernel_rfl)) k0 bel lt0) (trodAll_cons_mk (shut_int Try.underlying25 w_1) (trodAll_cons_mk (shut_int Try.underlying2 w_2) trodAll_mk0))), rfl, bel.frame _, fun h => by cases h⟩
theorem over : Rows.fnExactPutVarRow.holds Try.pinned (OpenSpec.ofChange Rows.fnExactPutVarSpec) :=
  OpenClaim.holds_of_wide 6 Try.f6 rfl rfl rfl rfl rfl rfl rfl ⟨rfl, rfl, rfl, rfl, rfl⟩ rfl rfl rfl rfl rfl (by kernel_rfl) Try.func6 (by kernel_rfl)
    (of_decide_eq_true (by kernel_rfl)) (by unfold Func.isWrapper; first | (rw [if_pos (by decide +kernel)]; kernel_rfl) | (rw [if_neg (by decide +kernel)]; exact ⟨rfl, rfl⟩))
    (fun os started H enc _ => lifted os started H enc)
theorem proved : Rows.FnExactPutVarSaid := over
#print axioms proved
end Go.Proofs.Ytcjdgimiobhhnaa.fnExactPutVar
namespace Go.Proofs.Ytcjdgimiobhhnaa
/-- The row, under a short name, for the claim. -/
theorem fnExactPutVar_holds : Rows.FnExactPutVarSaid := fnExactPutVar.proved
end Go.Proofs.Ytcjdgimiobhhnaa
