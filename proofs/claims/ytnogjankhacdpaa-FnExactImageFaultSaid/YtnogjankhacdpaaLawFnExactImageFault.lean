/- The row of FnExactImageFault: for every argument the law returns true, and its arguments read as they did. -/
import Derived.Test.YtnogjankhacdpaaRows
import Derived.Test.YtnogjankhacdpaaPureFnExactImageFault
import Derived.WalkKit
import Derived.ProofKit
import Derived.OpenShut
import Derived.ShutString
import Derived.ChangeOld
import Derived.Below
import Derived.SizedLaws
namespace Go.Proofs.Ytnogjankhacdpaa.fnExactImageFault
open Go.ChangeShapes Go.WideShapes Go.ChangeAt Go.RowKit Go.Proofs.Ytnogjankhacdpaa.QFnExactImageFault Go.Proofs.Ytnogjankhacdpaa.OpenFnExactImageFault Go.Proofs.YtnogjankhacdpaaW.PrintWords Go.Proofs.YtnogjankhacdpaaW.PrintLast Go.Proofs.YtnogjankhacdpaaW.PrintMore Go.Proofs.Ytnogjankhacdpaa.RowOpen
open Go.ChangeMaps (open_string shut_string)
set_option linter.unusedVariables false
set_option linter.unusedSimpArgs false
theorem own : ownKnob Try.prog.godebug = none := by kernel_rfl
theorem laidOut : laidOutB Try.prog = true := by kernel_rfl
theorem oP0 : Opens Try.prog (Kd.pair (Kd.slice 5 (Kd.int .u8)) (Kd.pair (Kd.slice 5 (Kd.int .u8)) (Kd.pair (Kd.int .i64) (Kd.pair (Kd.slice 2 (Kd.int .i64)) (Kd.pair (Kd.int .i64) (Kd.slice 92 k92)))))) (fun z => ((z.1.length ≤ maxLen ∧ ∀ y ∈ z.1, (Lit.int .u8 y).wf = true) ∧ ((z.2.1.length ≤ maxLen ∧ ∀ y ∈ z.2.1, (Lit.int .u8 y).wf = true) ∧ ((Lit.int .i64 z.2.2.1).wf = true ∧ ((z.2.2.2.1.length ≤ maxLen ∧ ∀ y ∈ z.2.2.2.1, (Lit.int .i64 y).wf = true) ∧ ((Lit.int .i64 z.2.2.2.2.1).wf = true ∧ (z.2.2.2.2.2.length ≤ maxLen ∧ ∀ y ∈ z.2.2.2.2.2, q92 y))))))) 39 := by
  have h := (opens_struct Try.underlying39 rfl (by kernel_rfl) (opensF_cons (opens_slice Try.underlying36 (by kernel_rfl) (opens_int Try.underlying5)) rfl (by kernel_rfl) (opensF_cons (opens_slice Try.underlying36 (by kernel_rfl) (opens_int Try.underlying5)) rfl (by kernel_rfl) (opensF_cons (opens_int Try.underlying2) rfl (by kernel_rfl) (opensF_cons (opens_slice Try.underlying24 (by kernel_rfl) (opens_int Try.underlying2)) rfl (by kernel_rfl) (opensF_cons (opens_int Try.underlying2) rfl (by kernel_rfl) (opensF_one (opens_slice Try.underlying37 (by kernel_rfl) o92) rfl (by kernel_rfl))))))))
  exact h
set_option maxRecDepth 100000 in
theorem lifted (os : Os) (started : os.Started) (H : Type) (enc : TypeId × Value → H) :
    ReturnsInHanded {} Try.checked os 9 .any (Rows.fnExactImageFaultSpec.pre6 enc Try.prog Try.f9 Rows.fnExactImageFaultRow.domain false) (Rows.fnExactImageFaultSpec.post enc Try.prog Try.f9 false true false false) := by
  refine returnsInHanded_of_change_sized (C := Try.checked) own started (by kernel_rfl) Try.func9
    (ChangeSpec.witness6 (enc := enc) (C := Try.checked) false ⟨#[], #[.agg #[.slice none 0 0, .slice none 0 0, .int .i64 0, .slice none 0 0, .int .i64 0, .slice none 0 0]], []⟩ 8 (by kernel_rfl) (by kernel_rfl) (by kernel_rfl) (by kernel_rfl)) ?_
  intro W base args ds gs before hval0 hW hcnd hsz0 _
  have hval : ∀ (j : Nat) t v, Try.f9.params[j]? = some t → args[j]? = some v → Value.okWide Try.prog W .any base t v := hval0
  have hW' := hW
  obtain ⟨p, q, hA0, hV, rfl, hfz, hnd⟩ := hW
  have hA : DataW.TrodAll enc Try.prog W 0 (fun _ => true) true Try.f9.params.toList args.toList ds p := hA0
  rw [Try.params9] at hA hval
  obtain ⟨v0, vs0, d0, ds0, p0, q0, hargs, rfl, rfl, h0, r0⟩ := trodAll_cons hA
  obtain ⟨rfl, rfl, rfl⟩ := trodAll_nil r0
  obtain rfl : args = #[v0] := by cases args; simp_all
  obtain ⟨rfl, rfl⟩ := trodVars_none hV
  have k0 := h0
  have lt0 : ∀ x ∈ p0, x.block < W.heap.size := by obtain ⟨m, hm⟩ := k0; exact DataW.trod_lt m _ _ _ hm
  obtain ⟨⟨l0_0, l0_1, a0_2, l0_3, a0_4, l0_5⟩, cs0, rfl, hk0, hq0⟩ := open_param oP0 Try.underlying39 (hval 0 39 v0 rfl rfl) h0
  obtain ⟨_, _, e0_, ⟨A0_0, c0_0, rfl, l_0_0, g_0_0⟩, ⟨_, _, rfl, ⟨A0_1, c0_1, rfl, l_0_1, g_0_1⟩, ⟨_, _, rfl, rfl, ⟨_, _, rfl, ⟨A0_3, c0_3, rfl, l_0_3, g_0_3⟩, ⟨_, _, rfl, rfl, ⟨A0_5, c0_5, rfl, l_0_5, g_0_5⟩⟩⟩⟩⟩⟩ := hk0
  obtain rfl : cs0 = #[.slice A0_0 l0_0.length c0_0, .slice A0_1 l0_1.length c0_1, .int .i64 a0_2, .slice A0_3 l0_3.length c0_3, .int .i64 a0_4, .slice A0_5 l0_5.length c0_5] := by rw [show cs0 = _ from array_of_list e0_]; rfl
  obtain ⟨w_0_0, w_0_1, w_0_2, w_0_3, w_0_4, w_0_5⟩ := hq0
  obtain ⟨k, h⟩ := Pure.FnExactImageFault _ _ _ _ _ _ w_0_0 w_0_1 w_0_2 w_0_3 w_0_4 w_0_5
  (try clear hsz0)
  (try clear hval0)
  (try clear hA0)
  refine (laws_FnExactImageFault.calls k _ _ _ _ _ _ _ _ _ _ _ _ _ _ true W g_0_0 l_0_0 g_0_1 l_0_1 g_0_3 l_0_3 g_0_5 l_0_5 h ⟨rfl⟩).mono fun e W' ⟨he, bel⟩ => ?_
  subst he
  exact ⟨_, rfl, _, _, _, [], _, [], hW', trodAll_mk1 (shut_bool Try.underlying4 _), (trodAll_cons_mk (Below.trod laidOut (by kernel_rfl) (of_decide_eq_true (by kernel_rfl)) k0 bel lt0) trodAll_mk0), rfl, bel.frame _, fun h => by cases h⟩
theorem over : Rows.fnExactImageFaultRow.holds Try.pinned (OpenSpec.ofChange Rows.fnExactImageFaultSpec) :=
  OpenClaim.holds_of_wide 9 Try.f9 rfl rfl rfl rfl rfl rfl rfl ⟨rfl, rfl, rfl, rfl, rfl⟩ rfl rfl rfl rfl rfl (by kernel_rfl) Try.func9 (by kernel_rfl)
    (of_decide_eq_true (by kernel_rfl)) (by unfold Func.isWrapper; first | (rw [if_pos (by decide +kernel)]; kernel_rfl) | (rw [if_neg (by decide +kernel)]; exact ⟨rfl, rfl⟩))
    (fun os started H enc _ => lifted os started H enc)
theorem proved : Rows.FnExactImageFaultSaid := over
#print axioms proved
end Go.Proofs.Ytnogjankhacdpaa.fnExactImageFault
namespace Go.Proofs.Ytnogjankhacdpaa
/-- The row, under a short name, for the claim. -/
theorem fnExactImageFault_holds : Rows.FnExactImageFaultSaid := fnExactImageFault.proved
end Go.Proofs.Ytnogjankhacdpaa
