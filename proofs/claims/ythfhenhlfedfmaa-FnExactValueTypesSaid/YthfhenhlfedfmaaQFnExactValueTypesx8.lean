-- written by mp.py, a program of this session, over the translation; Lean checks it
import Derived.Test.YthfhenhlfedfmaaMWords
import Derived.Test.YthfhenhlfedfmaaMKept
import Derived.Test.YthfhenhlfedfmaaMShare
import Derived.Test.YthfhenhlfedfmaaMMore
import Derived.Test.YthfhenhlfedfmaaQFnExactValueTypesx0
import Derived.Test.YthfhenhlfedfmaaQFnExactValueTypesx1
import Derived.Test.YthfhenhlfedfmaaQFnExactValueTypesx2
import Derived.Test.YthfhenhlfedfmaaQFnExactValueTypesx3
import Derived.Test.YthfhenhlfedfmaaQFnExactValueTypesx6
import Derived.Test.YthfhenhlfedfmaaQFnExactValueTypesx7
namespace Go.Proofs.Ythfhenhlfedfmaa.QFnExactValueTypes
open Go.RowKit Go.Proofs.YthfhenhlfedfmaaW.PrintWords Go.Proofs.YthfhenhlfedfmaaW.PrintLast Go.Proofs.YthfhenhlfedfmaaW.PrintMore
attribute [local go_sem] max2_int min2_int max_two min_two max_three min_three max_four min_four   -- for this text's walks alone
set_option linter.unusedVariables false
set_option linter.unusedSimpArgs false

/-! ### laws_FnExactValueTypes: function 3 -/
def laws_FnExactValueTypes.j0 : Nat → List Int → List Int → Bool → ByteArray → Int → List Int → Int → List (S132) → Option (Bool)
  | 0, _, _, _, _, _, _, _, _ => none
  | k + 1, x4, x6, x42, x252000, x252001, x252002, x252003, x252004 => if x42 = true then (some false) else ((laws_markInt64S.f k x6 1).bind fun bt291 => ((laws_heldInt64S.f k bt291.2 1).bind fun t293 => (if t293 < 0 then (some false) else (if t293 = bt291.1 then ((laws_toFunc.f k x252000 x252001 x252002 x252003 x252004).bind fun bt294 => ((impl_ValueTypes.f k bt294.1 bt294.2.1 bt294.2.2.1 bt294.2.2.2.1 bt294.2.2.2.2).bind fun t303 => ((laws_eqInt64S.f k t303 x4).bind fun t306 => (if t306 = true then ((laws_heldInt64S.f k bt291.2 1).bind fun t307 => (if t307 < 0 then (some false) else (if t307 = bt291.1 then (some true) else (some false)))) else (some false))))) else (some false)))))
def laws_FnExactValueTypes.f (k : Nat) (a0_0 : ByteArray) (a0_1 : Int) (l0_2 : List Int) (a0_3 : Int) (l0_4 : List (S132)) : Option (Bool) := (laws_szFunc.f k a0_0 a0_1 l0_2 a0_3 l0_4 1048576).bind fun t252 => (if t252 < 0 then (some true) else ((laws_toFunc.f k a0_0 a0_1 l0_2 a0_3 l0_4).bind fun bt253 => ((spec_ValueTypes.f k bt253.1 bt253.2.1 bt253.2.2.1 bt253.2.2.2.1 bt253.2.2.2.2).bind fun t262 => ((laws_toFunc.f k a0_0 a0_1 l0_2 a0_3 l0_4).bind fun bt265 => ((impl_ValueTypes.f k bt265.1 bt265.2.1 bt265.2.2.1 bt265.2.2.2.1 bt265.2.2.2.2).bind fun t275 => ((laws_eqInt64S.f k t275 t262).bind fun t278 => (if t278 = true then ((laws_toFunc.f k a0_0 a0_1 l0_2 a0_3 l0_4).bind fun bt279 => ((laws_eqFunc.f k bt265.1 bt265.2.1 bt265.2.2.1 bt265.2.2.2.1 bt265.2.2.2.2 bt279.1 bt279.2.1 bt279.2.2.1 bt279.2.2.2.1 bt279.2.2.2.2).bind fun t288 => (if t288 = true then ((laws_markFunc.f k bt265.1 bt265.2.1 bt265.2.2.1 bt265.2.2.2.1 bt265.2.2.2.2 1).bind fun t289 => (if t289 < 0 then (laws_FnExactValueTypes.j0 k t262 t275 true a0_0 a0_1 l0_2 a0_3 l0_4) else ((laws_eqInt64S.f k t275 t262).bind fun t290 => (laws_FnExactValueTypes.j0 k t262 t275 (!t290) a0_0 a0_1 l0_2 a0_3 l0_4)))) else (some false)))) else (some false))))))))
theorem laws_FnExactValueTypes.mono_l : ∀ k, (∀ y0 y1 y2 y3 y4 y5 y6 y7, LeO (laws_FnExactValueTypes.j0 k y0 y1 y2 y3 y4 y5 y6 y7) (laws_FnExactValueTypes.j0 (k + 1) y0 y1 y2 y3 y4 y5 y6 y7))
  | 0 => fun _ _ _ _ _ _ _ _ r h => by simp [laws_FnExactValueTypes.j0] at h
  | k + 1 => by
    have ih0 := laws_FnExactValueTypes.mono_l k
    · intro y0 y1 y2 y3 y4 y5 y6 y7
      unfold laws_FnExactValueTypes.j0
      repeat' first
      | (with_reducible exact ih0 _ _ _ _ _ _ _ _)
      | (with_reducible exact impl_ValueTypes.mono _ _ _ _ _ _)
      | (with_reducible exact laws_eqFunc.mono _ _ _ _ _ _ _ _ _ _ _)
      | (with_reducible exact laws_eqInt64S.mono _ _ _)
      | (with_reducible exact laws_heldInt64S.mono _ _ _)
      | (with_reducible exact laws_markFunc.mono _ _ _ _ _ _ _)
      | (with_reducible exact laws_markInt64S.mono _ _ _)
      | (with_reducible exact laws_szFunc.mono _ _ _ _ _ _ _)
      | (with_reducible exact laws_toFunc.mono _ _ _ _ _ _)
      | (with_reducible exact spec_ValueTypes.mono _ _ _ _ _ _)
      | (with_reducible exact LeO.refl _)
      | (with_reducible exact LeO.none _)
      | (with_reducible refine LeO.ite ?_ ?_)
      | (with_reducible refine LeO.bind ?_ (fun _ => ?_))
      | exact ih0 _ _ _ _ _ _ _ _
      | exact impl_ValueTypes.mono _ _ _ _ _ _
      | exact laws_eqFunc.mono _ _ _ _ _ _ _ _ _ _ _
      | exact laws_eqInt64S.mono _ _ _
      | exact laws_heldInt64S.mono _ _ _
      | exact laws_markFunc.mono _ _ _ _ _ _ _
      | exact laws_markInt64S.mono _ _ _
      | exact laws_szFunc.mono _ _ _ _ _ _ _
      | exact laws_toFunc.mono _ _ _ _ _ _
      | exact spec_ValueTypes.mono _ _ _ _ _ _
      | exact LeO.none _
      | refine LeO.ite ?_ ?_
      | refine LeO.bind ?_ (fun _ => ?_)
theorem laws_FnExactValueTypes.mono : ∀ a0 a1 a2 a3 a4 k, LeO (laws_FnExactValueTypes.f k a0 a1 a2 a3 a4) (laws_FnExactValueTypes.f (k + 1) a0 a1 a2 a3 a4) := by
  intro a0 a1 a2 a3 a4 k
  have ih0 := laws_FnExactValueTypes.mono_l k
  unfold laws_FnExactValueTypes.f
  repeat' first
      | (with_reducible exact ih0 _ _ _ _ _ _ _ _)
      | (with_reducible exact impl_ValueTypes.mono _ _ _ _ _ _)
      | (with_reducible exact laws_eqFunc.mono _ _ _ _ _ _ _ _ _ _ _)
      | (with_reducible exact laws_eqInt64S.mono _ _ _)
      | (with_reducible exact laws_heldInt64S.mono _ _ _)
      | (with_reducible exact laws_markFunc.mono _ _ _ _ _ _ _)
      | (with_reducible exact laws_markInt64S.mono _ _ _)
      | (with_reducible exact laws_szFunc.mono _ _ _ _ _ _ _)
      | (with_reducible exact laws_toFunc.mono _ _ _ _ _ _)
      | (with_reducible exact spec_ValueTypes.mono _ _ _ _ _ _)
      | (with_reducible exact LeO.refl _)
      | (with_reducible exact LeO.none _)
      | (with_reducible refine LeO.ite ?_ ?_)
      | (with_reducible refine LeO.bind ?_ (fun _ => ?_))
      | exact ih0 _ _ _ _ _ _ _ _
      | exact impl_ValueTypes.mono _ _ _ _ _ _
      | exact laws_eqFunc.mono _ _ _ _ _ _ _ _ _ _ _
      | exact laws_eqInt64S.mono _ _ _
      | exact laws_heldInt64S.mono _ _ _
      | exact laws_markFunc.mono _ _ _ _ _ _ _
      | exact laws_markInt64S.mono _ _ _
      | exact laws_szFunc.mono _ _ _ _ _ _ _
      | exact laws_toFunc.mono _ _ _ _ _ _
      | exact spec_ValueTypes.mono _ _ _ _ _ _
      | exact LeO.none _
      | refine LeO.ite ?_ ?_
      | refine LeO.bind ?_ (fun _ => ?_)
set_option maxHeartbeats 8000000 in
set_option maxRecDepth 100000 in
theorem laws_FnExactValueTypes.calls (k : Nat) (a0_0 : ByteArray) (a0_1 : Int) (A0_2 : Option Addr) (c0_2 : Nat) (l0_2 : List Int) (a0_3 : Int) (A0_4 : Option Addr) (c0_4 : Nat) (l0_4 : List (S132)) (r : Bool) (w : World) (hr0_2 : Kd.C (Kd.int .i64) w A0_2 l0_2.length l0_2) (hc0_2 : l0_2.length ≤ c0_2) (hr0_4 : Kd.C k132 w A0_4 l0_4.length l0_4) (hc0_4 : l0_4.length ≤ c0_4) (h : laws_FnExactValueTypes.f k a0_0 a0_1 l0_2 a0_3 l0_4 = some r) (hlaw : Aside0 (r = true)) :
    Calls Try.prog 3 #[.agg #[.string a0_0, .int .i64 a0_1, .slice A0_2 l0_2.length c0_2, .int .i64 a0_3, .slice A0_4 l0_4.length c0_4]] w fun e w' => e = .returned (.bool r) ∧ Below w.heap.size w w' := by
  have hu25 := Try.underlying25
  have hu30 := Try.underlying30
  have HR0_2 := Aside0.mk hr0_2
  have HC0_2 := Aside0.mk hc0_2
  clear hr0_2 hc0_2
  have HR0_4 := Aside0.mk hr0_4
  have HC0_4 := Aside0.mk hc0_4
  clear hr0_4 hc0_4
  have HB := Aside0.mk (Below.refl w.heap.size w)
  have H : ((laws_szFunc.f k a0_0 a0_1 l0_2 a0_3 l0_4 1048576).bind fun t252 => (if t252 < 0 then (some true) else ((laws_toFunc.f k a0_0 a0_1 l0_2 a0_3 l0_4).bind fun bt253 => ((spec_ValueTypes.f k bt253.1 bt253.2.1 bt253.2.2.1 bt253.2.2.2.1 bt253.2.2.2.2).bind fun t262 => ((laws_toFunc.f k a0_0 a0_1 l0_2 a0_3 l0_4).bind fun bt265 => ((impl_ValueTypes.f k bt265.1 bt265.2.1 bt265.2.2.1 bt265.2.2.2.1 bt265.2.2.2.2).bind fun t275 => ((laws_eqInt64S.f k t275 t262).bind fun t278 => (if t278 = true then ((laws_toFunc.f k a0_0 a0_1 l0_2 a0_3 l0_4).bind fun bt279 => ((laws_eqFunc.f k bt265.1 bt265.2.1 bt265.2.2.1 bt265.2.2.2.1 bt265.2.2.2.2 bt279.1 bt279.2.1 bt279.2.2.1 bt279.2.2.2.1 bt279.2.2.2.2).bind fun t288 => (if t288 = true then ((laws_markFunc.f k bt265.1 bt265.2.1 bt265.2.2.1 bt265.2.2.2.1 bt265.2.2.2.2 1).bind fun t289 => (if t289 < 0 then (laws_FnExactValueTypes.j0 k t262 t275 true a0_0 a0_1 l0_2 a0_3 l0_4) else ((laws_eqInt64S.f k t275 t262).bind fun t290 => (laws_FnExactValueTypes.j0 k t262 t275 (!t290) a0_0 a0_1 l0_2 a0_3 l0_4)))) else (some false)))) else (some false))))))))) = some r := h
  clear h
  replace H := Option.bind_eq_some_iff.mp H
  obtain ⟨t252, A20, H⟩ := H
  replace H : (if t252 < 0 then (some true) else ((laws_toFunc.f k a0_0 a0_1 l0_2 a0_3 l0_4).bind fun bt253 => ((spec_ValueTypes.f k bt253.1 bt253.2.1 bt253.2.2.1 bt253.2.2.2.1 bt253.2.2.2.2).bind fun t262 => ((laws_toFunc.f k a0_0 a0_1 l0_2 a0_3 l0_4).bind fun bt265 => ((impl_ValueTypes.f k bt265.1 bt265.2.1 bt265.2.2.1 bt265.2.2.2.1 bt265.2.2.2.2).bind fun t275 => ((laws_eqInt64S.f k t275 t262).bind fun t278 => (if t278 = true then ((laws_toFunc.f k a0_0 a0_1 l0_2 a0_3 l0_4).bind fun bt279 => ((laws_eqFunc.f k bt265.1 bt265.2.1 bt265.2.2.1 bt265.2.2.2.1 bt265.2.2.2.2 bt279.1 bt279.2.1 bt279.2.2.1 bt279.2.2.2.1 bt279.2.2.2.2).bind fun t288 => (if t288 = true then ((laws_markFunc.f k bt265.1 bt265.2.1 bt265.2.2.1 bt265.2.2.2.1 bt265.2.2.2.2 1).bind fun t289 => (if t289 < 0 then (laws_FnExactValueTypes.j0 k t262 t275 true a0_0 a0_1 l0_2 a0_3 l0_4) else ((laws_eqInt64S.f k t275 t262).bind fun t290 => (laws_FnExactValueTypes.j0 k t262 t275 (!t290) a0_0 a0_1 l0_2 a0_3 l0_4)))) else (some false)))) else (some false)))))))) = some r := H
  have A2 := Aside0.mk A20
  clear A20
  by_cases c3 : t252 < 0
  · rw [if_pos c3] at H
    have c3b0 : decide (t252 < 0) = true := decide_eq_true c3
    clear c3
    obtain rfl := Option.some.inj H
    go_enter Try.func3, Try.ntmps3
    go_wp2_with (first | ((with_reducible refine gate_dst (N := 1) rfl ?_); refine box_event ?hg (N := 1) ?hd (cs := #[.string a0_0, .int .i64 a0_1, .slice A0_2 l0_2.length c0_2, .int .i64 a0_3, .slice A0_4 l0_4.length c0_4]) (t := 25) ?hr ?_; (case hd => rfl); (case hg => rfl); (case hr => first | (go_simp; done) | (go_simp; rfl)); intro gb251 hg w4 hbox hb; have n0_ := Aside0.mk (below_step (by repeat (first | (with_reducible first | exact HB.out | apply below_alloc | apply pw_below_drewN | apply below_drew1) | exact HB.out)) hb); have n1_ := Aside0.mk (hbox); have n2_ := Aside0.mk ((by rw [hg]; exact (below_size (by repeat (first | (with_reducible first | exact HB.out | apply below_alloc | apply pw_below_drewN | apply below_drew1) | exact HB.out))) : w.heap.size ≤ gb251)); have n3_ := Aside0.mk ((by rw [hg]; exact (below_size (by repeat (first | (with_reducible first | exact HB.out | apply below_alloc | apply pw_below_drewN | apply below_drew1) | exact HB.out))) : w.heap.size ≤ gb251)); clear HB; have HB := n0_; have BK251 := n1_; have GW251 := n2_; have GE251 := n3_; clear n0_ n1_ n2_ n3_; clear hb hbox hg; have hcz5_0 : w4.cell? ⟨gb251, 0, none⟩ = some (.string a0_0) := (blk_cell BK251.out 0).trans rfl; have hcz5_1 : w4.cell? ⟨gb251, 1, none⟩ = some (.int .i64 a0_1) := (blk_cell BK251.out 1).trans rfl; have hcz5_2 : w4.cell? ⟨gb251, 2, none⟩ = some (.slice A0_2 l0_2.length c0_2) := (blk_cell BK251.out 2).trans rfl; have hcz5_3 : w4.cell? ⟨gb251, 3, none⟩ = some (.int .i64 a0_3) := (blk_cell BK251.out 3).trans rfl; have hcz5_4 : w4.cell? ⟨gb251, 4, none⟩ = some (.slice A0_4 l0_4.length c0_4) := (blk_cell BK251.out 4).trans rfl; have hfz5_0 := blk_frozen BK251.out 0; have hfz5_1 := blk_frozen BK251.out 1; have hfz5_2 := blk_frozen BK251.out 2; have hfz5_3 := blk_frozen BK251.out 3; have hfz5_4 := blk_frozen BK251.out 4) | ((with_reducible refine gate_callee (f := 15) rfl ?_); refine goesL_ (some 13) rfl rfl Try.func15 (by kernel_rfl) rfl #[.agg #[.string a0_0, .int .i64 a0_1, .slice A0_2 l0_2.length c0_2, .int .i64 a0_3, .slice A0_4 l0_4.length c0_4], .int .i64 1048576] rfl (by (try simp only [List.map_toArray, List.map_cons, List.map_nil]); first | done | rfl | (simp only [List.length_drop, List.length_take]; rfl)) ?_; (with_reducible refine (laws_szFunc.calls k a0_0 a0_1 _ _ l0_2 a0_3 _ _ l0_4 1048576 t252 _ ?side1 ?side2 ?side3 ?side4 A2.out).mono ?_); (case side1 => repeat (first | exact (Kd.C_below HR0_2.out HB.out) | (with_reducible refine Kd.C_alloc ?_ _) | (with_reducible refine Kd.C_drewN ?_ _) | (with_reducible refine Kd.C_drew ?_))); (case side2 => exact HC0_2.out); (case side3 => repeat (first | exact (Kd.C_below HR0_4.out HB.out) | (with_reducible refine Kd.C_alloc ?_ _) | (with_reducible refine Kd.C_drewN ?_ _) | (with_reducible refine Kd.C_drew ?_))); (case side4 => exact HC0_4.out); rintro e w6 ⟨rfl, hb⟩; refine ⟨_, rfl, ?_⟩; have n0_ := Aside0.mk (blk_below (g := gb251) (o := .cells #[.string a0_0, .int .i64 a0_1, .slice A0_2 l0_2.length c0_2, .int .i64 a0_3, .slice A0_4 l0_4.length c0_4] 25 (0, 0)) (by (with_reducible repeat (first | refine blk_drewN ?_ _ | refine blk_drew ?_ | refine blk_alloc ?_ _)); exact BK251.out) hb); have n1_ := Aside0.mk (below_step (by repeat (first | (with_reducible first | exact HB.out | apply below_alloc | apply pw_below_drewN | apply below_drew1 | refine below_set ?_ GE251.out) | exact HB.out)) hb); clear BK251; clear HB; have BK251 := n0_; have HB := n1_; clear n0_ n1_; (try clear hb); (try clear hb2); (try clear hk); (try clear hi)))
    go_ret
    exact ⟨by first | rfl | (simp [errW_none, errW_some] <;> rfl) | (simp [*, errW_none, errW_some] <;> rfl), by repeat (first | (with_reducible first | exact HB.out | apply below_alloc | apply pw_below_drewN | apply below_drew1 | refine below_set ?_ GE251.out) | exact HB.out)⟩
  · rw [if_neg c3] at H
    have c3b0 : decide (t252 < 0) = false := decide_eq_false c3
    clear c3
    replace H := Option.bind_eq_some_iff.mp H
    obtain ⟨⟨t253, t254, t255, t258, t259⟩, A70, H⟩ := H
    replace H : ((spec_ValueTypes.f k t253 t254 t255 t258 t259).bind fun t262 => ((laws_toFunc.f k a0_0 a0_1 l0_2 a0_3 l0_4).bind fun bt265 => ((impl_ValueTypes.f k bt265.1 bt265.2.1 bt265.2.2.1 bt265.2.2.2.1 bt265.2.2.2.2).bind fun t275 => ((laws_eqInt64S.f k t275 t262).bind fun t278 => (if t278 = true then ((laws_toFunc.f k a0_0 a0_1 l0_2 a0_3 l0_4).bind fun bt279 => ((laws_eqFunc.f k bt265.1 bt265.2.1 bt265.2.2.1 bt265.2.2.2.1 bt265.2.2.2.2 bt279.1 bt279.2.1 bt279.2.2.1 bt279.2.2.2.1 bt279.2.2.2.2).bind fun t288 => (if t288 = true then ((laws_markFunc.f k bt265.1 bt265.2.1 bt265.2.2.1 bt265.2.2.2.1 bt265.2.2.2.2 1).bind fun t289 => (if t289 < 0 then (laws_FnExactValueTypes.j0 k t262 t275 true a0_0 a0_1 l0_2 a0_3 l0_4) else ((laws_eqInt64S.f k t275 t262).bind fun t290 => (laws_FnExactValueTypes.j0 k t262 t275 (!t290) a0_0 a0_1 l0_2 a0_3 l0_4)))) else (some false)))) else (some false)))))) = some r := H
    have A7 := Aside0.mk A70
    clear A70
    replace H := Option.bind_eq_some_iff.mp H
    obtain ⟨t262, A80, H⟩ := H
    replace H : ((laws_toFunc.f k a0_0 a0_1 l0_2 a0_3 l0_4).bind fun bt265 => ((impl_ValueTypes.f k bt265.1 bt265.2.1 bt265.2.2.1 bt265.2.2.2.1 bt265.2.2.2.2).bind fun t275 => ((laws_eqInt64S.f k t275 t262).bind fun t278 => (if t278 = true then ((laws_toFunc.f k a0_0 a0_1 l0_2 a0_3 l0_4).bind fun bt279 => ((laws_eqFunc.f k bt265.1 bt265.2.1 bt265.2.2.1 bt265.2.2.2.1 bt265.2.2.2.2 bt279.1 bt279.2.1 bt279.2.2.1 bt279.2.2.2.1 bt279.2.2.2.2).bind fun t288 => (if t288 = true then ((laws_markFunc.f k bt265.1 bt265.2.1 bt265.2.2.1 bt265.2.2.2.1 bt265.2.2.2.2 1).bind fun t289 => (if t289 < 0 then (laws_FnExactValueTypes.j0 k t262 t275 true a0_0 a0_1 l0_2 a0_3 l0_4) else ((laws_eqInt64S.f k t275 t262).bind fun t290 => (laws_FnExactValueTypes.j0 k t262 t275 (!t290) a0_0 a0_1 l0_2 a0_3 l0_4)))) else (some false)))) else (some false))))) = some r := H
    have A8 := Aside0.mk A80
    clear A80
    replace H := Option.bind_eq_some_iff.mp H
    obtain ⟨⟨t265, t266, t267, t270, t271⟩, A90, H⟩ := H
    replace H : ((impl_ValueTypes.f k t265 t266 t267 t270 t271).bind fun t275 => ((laws_eqInt64S.f k t275 t262).bind fun t278 => (if t278 = true then ((laws_toFunc.f k a0_0 a0_1 l0_2 a0_3 l0_4).bind fun bt279 => ((laws_eqFunc.f k t265 t266 t267 t270 t271 bt279.1 bt279.2.1 bt279.2.2.1 bt279.2.2.2.1 bt279.2.2.2.2).bind fun t288 => (if t288 = true then ((laws_markFunc.f k t265 t266 t267 t270 t271 1).bind fun t289 => (if t289 < 0 then (laws_FnExactValueTypes.j0 k t262 t275 true a0_0 a0_1 l0_2 a0_3 l0_4) else ((laws_eqInt64S.f k t275 t262).bind fun t290 => (laws_FnExactValueTypes.j0 k t262 t275 (!t290) a0_0 a0_1 l0_2 a0_3 l0_4)))) else (some false)))) else (some false)))) = some r := H
    have A9 := Aside0.mk A90
    clear A90
    replace H := Option.bind_eq_some_iff.mp H
    obtain ⟨t275, A100, H⟩ := H
    replace H : ((laws_eqInt64S.f k t275 t262).bind fun t278 => (if t278 = true then ((laws_toFunc.f k a0_0 a0_1 l0_2 a0_3 l0_4).bind fun bt279 => ((laws_eqFunc.f k t265 t266 t267 t270 t271 bt279.1 bt279.2.1 bt279.2.2.1 bt279.2.2.2.1 bt279.2.2.2.2).bind fun t288 => (if t288 = true then ((laws_markFunc.f k t265 t266 t267 t270 t271 1).bind fun t289 => (if t289 < 0 then (laws_FnExactValueTypes.j0 k t262 t275 true a0_0 a0_1 l0_2 a0_3 l0_4) else ((laws_eqInt64S.f k t275 t262).bind fun t290 => (laws_FnExactValueTypes.j0 k t262 t275 (!t290) a0_0 a0_1 l0_2 a0_3 l0_4)))) else (some false)))) else (some false))) = some r := H
    have A10 := Aside0.mk A100
    clear A100
    replace H := Option.bind_eq_some_iff.mp H
    obtain ⟨t278, A110, H⟩ := H
    replace H : (if t278 = true then ((laws_toFunc.f k a0_0 a0_1 l0_2 a0_3 l0_4).bind fun bt279 => ((laws_eqFunc.f k t265 t266 t267 t270 t271 bt279.1 bt279.2.1 bt279.2.2.1 bt279.2.2.2.1 bt279.2.2.2.2).bind fun t288 => (if t288 = true then ((laws_markFunc.f k t265 t266 t267 t270 t271 1).bind fun t289 => (if t289 < 0 then (laws_FnExactValueTypes.j0 k t262 t275 true a0_0 a0_1 l0_2 a0_3 l0_4) else ((laws_eqInt64S.f k t275 t262).bind fun t290 => (laws_FnExactValueTypes.j0 k t262 t275 (!t290) a0_0 a0_1 l0_2 a0_3 l0_4)))) else (some false)))) else (some false)) = some r := H
    have A11 := Aside0.mk A110
    clear A110
    by_cases c12 : t278 = true
    · subst c12
      have H1 : ((laws_toFunc.f k a0_0 a0_1 l0_2 a0_3 l0_4).bind fun bt279 => ((laws_eqFunc.f k t265 t266 t267 t270 t271 bt279.1 bt279.2.1 bt279.2.2.1 bt279.2.2.2.1 bt279.2.2.2.2).bind fun t288 => (if t288 = true then ((laws_markFunc.f k t265 t266 t267 t270 t271 1).bind fun t289 => (if t289 < 0 then (laws_FnExactValueTypes.j0 k t262 t275 true a0_0 a0_1 l0_2 a0_3 l0_4) else ((laws_eqInt64S.f k t275 t262).bind fun t290 => (laws_FnExactValueTypes.j0 k t262 t275 (!t290) a0_0 a0_1 l0_2 a0_3 l0_4)))) else (some false)))) = some r := by rw [if_pos rfl] at H; exact H
      clear H
      have H := H1
      clear H1
      replace H := Option.bind_eq_some_iff.mp H
      obtain ⟨⟨t279, t280, t281, t284, t285⟩, A130, H⟩ := H
      replace H : ((laws_eqFunc.f k t265 t266 t267 t270 t271 t279 t280 t281 t284 t285).bind fun t288 => (if t288 = true then ((laws_markFunc.f k t265 t266 t267 t270 t271 1).bind fun t289 => (if t289 < 0 then (laws_FnExactValueTypes.j0 k t262 t275 true a0_0 a0_1 l0_2 a0_3 l0_4) else ((laws_eqInt64S.f k t275 t262).bind fun t290 => (laws_FnExactValueTypes.j0 k t262 t275 (!t290) a0_0 a0_1 l0_2 a0_3 l0_4)))) else (some false))) = some r := H
      have A13 := Aside0.mk A130
      clear A130
      replace H := Option.bind_eq_some_iff.mp H
      obtain ⟨t288, A140, H⟩ := H
      replace H : (if t288 = true then ((laws_markFunc.f k t265 t266 t267 t270 t271 1).bind fun t289 => (if t289 < 0 then (laws_FnExactValueTypes.j0 k t262 t275 true a0_0 a0_1 l0_2 a0_3 l0_4) else ((laws_eqInt64S.f k t275 t262).bind fun t290 => (laws_FnExactValueTypes.j0 k t262 t275 (!t290) a0_0 a0_1 l0_2 a0_3 l0_4)))) else (some false)) = some r := H
      have A14 := Aside0.mk A140
      clear A140
      by_cases c15 : t288 = true
      · subst c15
        have H1 : ((laws_markFunc.f k t265 t266 t267 t270 t271 1).bind fun t289 => (if t289 < 0 then (laws_FnExactValueTypes.j0 k t262 t275 true a0_0 a0_1 l0_2 a0_3 l0_4) else ((laws_eqInt64S.f k t275 t262).bind fun t290 => (laws_FnExactValueTypes.j0 k t262 t275 (!t290) a0_0 a0_1 l0_2 a0_3 l0_4)))) = some r := by rw [if_pos rfl] at H; exact H
        clear H
        have H := H1
        clear H1
        replace H := Option.bind_eq_some_iff.mp H
        obtain ⟨t289, A160, H⟩ := H
        replace H : (if t289 < 0 then (laws_FnExactValueTypes.j0 k t262 t275 true a0_0 a0_1 l0_2 a0_3 l0_4) else ((laws_eqInt64S.f k t275 t262).bind fun t290 => (laws_FnExactValueTypes.j0 k t262 t275 (!t290) a0_0 a0_1 l0_2 a0_3 l0_4))) = some r := H
        have A16 := Aside0.mk A160
        clear A160
        have HC17 := Aside0.mk H
        clear H
        go_enter Try.func3, Try.ntmps3
        try go_wp2_with (first | ((with_reducible refine gate_dst (N := 1) rfl ?_); refine box_event ?hg (N := 1) ?hd (cs := #[.string a0_0, .int .i64 a0_1, .slice A0_2 l0_2.length c0_2, .int .i64 a0_3, .slice A0_4 l0_4.length c0_4]) (t := 25) ?hr ?_; (case hd => rfl); (case hg => rfl); (case hr => first | (go_simp; done) | (go_simp; rfl)); intro gb251 hg w18 hbox hb; have n0_ := Aside0.mk (below_step (by repeat (first | (with_reducible first | exact HB.out | apply below_alloc | apply pw_below_drewN | apply below_drew1) | exact HB.out)) hb); have n1_ := Aside0.mk (hbox); have n2_ := Aside0.mk ((by rw [hg]; exact (below_size (by repeat (first | (with_reducible first | exact HB.out | apply below_alloc | apply pw_below_drewN | apply below_drew1) | exact HB.out))) : w.heap.size ≤ gb251)); have n3_ := Aside0.mk ((by rw [hg]; exact (below_size (by repeat (first | (with_reducible first | exact HB.out | apply below_alloc | apply pw_below_drewN | apply below_drew1) | exact HB.out))) : w.heap.size ≤ gb251)); clear HB; have HB := n0_; have BK251 := n1_; have GW251 := n2_; have GE251 := n3_; clear n0_ n1_ n2_ n3_; clear hb hbox hg; have hcz19_0 : w18.cell? ⟨gb251, 0, none⟩ = some (.string a0_0) := (blk_cell BK251.out 0).trans rfl; have hcz19_1 : w18.cell? ⟨gb251, 1, none⟩ = some (.int .i64 a0_1) := (blk_cell BK251.out 1).trans rfl; have hcz19_2 : w18.cell? ⟨gb251, 2, none⟩ = some (.slice A0_2 l0_2.length c0_2) := (blk_cell BK251.out 2).trans rfl; have hcz19_3 : w18.cell? ⟨gb251, 3, none⟩ = some (.int .i64 a0_3) := (blk_cell BK251.out 3).trans rfl; have hcz19_4 : w18.cell? ⟨gb251, 4, none⟩ = some (.slice A0_4 l0_4.length c0_4) := (blk_cell BK251.out 4).trans rfl; have hfz19_0 := blk_frozen BK251.out 0; have hfz19_1 := blk_frozen BK251.out 1; have hfz19_2 := blk_frozen BK251.out 2; have hfz19_3 := blk_frozen BK251.out 3; have hfz19_4 := blk_frozen BK251.out 4) | ((with_reducible refine gate_callee (f := 15) rfl ?_); refine goesL_ (some 13) rfl rfl Try.func15 (by kernel_rfl) rfl #[.agg #[.string a0_0, .int .i64 a0_1, .slice A0_2 l0_2.length c0_2, .int .i64 a0_3, .slice A0_4 l0_4.length c0_4], .int .i64 1048576] rfl (by (try simp only [List.map_toArray, List.map_cons, List.map_nil]); first | done | rfl | (simp only [List.length_drop, List.length_take]; rfl)) ?_; (with_reducible refine (laws_szFunc.calls k a0_0 a0_1 _ _ l0_2 a0_3 _ _ l0_4 1048576 t252 _ ?side1 ?side2 ?side3 ?side4 A2.out).mono ?_); (case side1 => repeat (first | exact (Kd.C_below HR0_2.out HB.out) | (with_reducible refine Kd.C_alloc ?_ _) | (with_reducible refine Kd.C_drewN ?_ _) | (with_reducible refine Kd.C_drew ?_))); (case side2 => exact HC0_2.out); (case side3 => repeat (first | exact (Kd.C_below HR0_4.out HB.out) | (with_reducible refine Kd.C_alloc ?_ _) | (with_reducible refine Kd.C_drewN ?_ _) | (with_reducible refine Kd.C_drew ?_))); (case side4 => exact HC0_4.out); rintro e w20 ⟨rfl, hb⟩; refine ⟨_, rfl, ?_⟩; have n0_ := Aside0.mk (blk_below (g := gb251) (o := .cells #[.string a0_0, .int .i64 a0_1, .slice A0_2 l0_2.length c0_2, .int .i64 a0_3, .slice A0_4 l0_4.length c0_4] 25 (0, 0)) (by (with_reducible repeat (first | refine blk_drewN ?_ _ | refine blk_drew ?_ | refine blk_alloc ?_ _)); exact BK251.out) hb); have n1_ := Aside0.mk (below_step (by repeat (first | (with_reducible first | exact HB.out | apply below_alloc | apply pw_below_drewN | apply below_drew1 | refine below_set ?_ GE251.out) | exact HB.out)) hb); clear BK251; clear HB; have BK251 := n0_; have HB := n1_; clear n0_ n1_; (try clear hb); (try clear hb2); (try clear hk); (try clear hi); have hcz21_0 : w20.cell? ⟨gb251, 0, none⟩ = some (.string a0_0) := (blk_cell BK251.out 0).trans rfl; have hcz21_1 : w20.cell? ⟨gb251, 1, none⟩ = some (.int .i64 a0_1) := (blk_cell BK251.out 1).trans rfl; have hcz21_2 : w20.cell? ⟨gb251, 2, none⟩ = some (.slice A0_2 l0_2.length c0_2) := (blk_cell BK251.out 2).trans rfl; have hcz21_3 : w20.cell? ⟨gb251, 3, none⟩ = some (.int .i64 a0_3) := (blk_cell BK251.out 3).trans rfl; have hcz21_4 : w20.cell? ⟨gb251, 4, none⟩ = some (.slice A0_4 l0_4.length c0_4) := (blk_cell BK251.out 4).trans rfl; have hfz21_0 := blk_frozen BK251.out 0; have hfz21_1 := blk_frozen BK251.out 1; have hfz21_2 := blk_frozen BK251.out 2; have hfz21_3 := blk_frozen BK251.out 3; have hfz21_4 := blk_frozen BK251.out 4) | ((with_reducible refine gate_callee (f := 17) rfl ?_); refine goesL_ (some 17) rfl rfl Try.func17 (by kernel_rfl) rfl #[.agg #[.string a0_0, .int .i64 a0_1, .slice A0_2 l0_2.length c0_2, .int .i64 a0_3, .slice A0_4 l0_4.length c0_4]] rfl (by (try simp only [List.map_toArray, List.map_cons, List.map_nil]); first | done | rfl | (simp only [List.length_drop, List.length_take]; rfl)) ?_; (with_reducible refine (laws_toFunc.calls k a0_0 a0_1 _ _ l0_2 a0_3 _ _ l0_4 t253 t254 t255 t258 t259 _ ?side1 ?side2 ?side3 ?side4 A7.out).mono ?_); (case side1 => repeat (first | exact (Kd.C_below HR0_2.out HB.out) | (with_reducible refine Kd.C_alloc ?_ _) | (with_reducible refine Kd.C_drewN ?_ _) | (with_reducible refine Kd.C_drew ?_))); (case side2 => exact HC0_2.out); (case side3 => repeat (first | exact (Kd.C_below HR0_4.out HB.out) | (with_reducible refine Kd.C_alloc ?_ _) | (with_reducible refine Kd.C_drewN ?_ _) | (with_reducible refine Kd.C_drew ?_))); (case side4 => exact HC0_4.out); rintro e w22 ⟨v256, v260, rfl, ho0, ho1, hb⟩; refine ⟨_, rfl, ?_⟩; have n0_ := Aside0.mk (Kd.R_lower ho0 (below_size (by repeat (first | (with_reducible first | exact HB.out | apply below_alloc | apply pw_below_drewN | apply below_drew1 | refine below_set ?_ GE251.out) | exact HB.out)))); have n1_ := Aside0.mk (Kd.R_lower ho1 (below_size (by repeat (first | (with_reducible first | exact HB.out | apply below_alloc | apply pw_below_drewN | apply below_drew1 | refine below_set ?_ GE251.out) | exact HB.out)))); have n2_ := Aside0.mk (blk_below (g := gb251) (o := .cells #[.string a0_0, .int .i64 a0_1, .slice A0_2 l0_2.length c0_2, .int .i64 a0_3, .slice A0_4 l0_4.length c0_4] 25 (0, 0)) (by (with_reducible repeat (first | refine blk_drewN ?_ _ | refine blk_drew ?_ | refine blk_alloc ?_ _)); exact BK251.out) hb); have n3_ := Aside0.mk (below_step (by repeat (first | (with_reducible first | exact HB.out | apply below_alloc | apply pw_below_drewN | apply below_drew1 | refine below_set ?_ GE251.out) | exact HB.out)) hb); clear BK251; clear HB; have HO257 := n0_; have HO261 := n1_; have BK251 := n2_; have HB := n3_; clear n0_ n1_ n2_ n3_; (try clear hb); (try clear hb2); (try clear hk); (try clear hi); (try clear ho0); (try clear ho1); obtain ⟨Ao23, co23, eo23⟩ := Kd.R_slice HO257.out; subst eo23; obtain ⟨Ao24, co24, eo24⟩ := Kd.R_slice HO261.out; subst eo24) | ((with_reducible refine gate_callee (f := 16) rfl ?_); refine goesL_ (some 18) rfl rfl Try.func16 (by kernel_rfl) rfl #[.agg #[.string t253, .int .i64 t254, .slice Ao23 t255.length co23, .int .i64 t258, .slice Ao24 t259.length co24]] rfl (by (try simp only [List.map_toArray, List.map_cons, List.map_nil]); first | done | rfl | (simp only [List.length_drop, List.length_take]; rfl)) ?_; (with_reducible refine (spec_ValueTypes.calls k t253 t254 _ _ t255 t258 _ _ t259 t262 _ ?side1 ?side2 ?side3 ?side4 A8.out).mono ?_); (case side1 => repeat (first | exact (Kd.R_reads' HO257.out).2.2 | (with_reducible refine Kd.C_alloc ?_ _) | (with_reducible refine Kd.C_drewN ?_ _) | (with_reducible refine Kd.C_drew ?_))); (case side2 => exact (Kd.R_reads' HO257.out).2.1); (case side3 => repeat (first | exact (Kd.R_reads' HO261.out).2.2 | (with_reducible refine Kd.C_alloc ?_ _) | (with_reducible refine Kd.C_drewN ?_ _) | (with_reducible refine Kd.C_drew ?_))); (case side4 => exact (Kd.R_reads' HO261.out).2.1); rintro e w25 ⟨v263, rfl, ho0, hb⟩; refine ⟨_, rfl, ?_⟩; have n0_ := Aside0.mk (Kd.R_elder' (by (with_reducible repeat (first | apply Kd.R_alloc | apply Kd.R_drewN | apply Kd.R_drew)); exact HO257.out) (Kd.R_base ho0) hb); have n1_ := Aside0.mk (Kd.R_elder' (by (with_reducible repeat (first | apply Kd.R_alloc | apply Kd.R_drewN | apply Kd.R_drew)); exact HO261.out) (Kd.R_base ho0) hb); have n2_ := Aside0.mk (Kd.R_lower (Kd.R_new' ho0 (Kd.R_lt (by (with_reducible repeat (first | apply Kd.R_alloc | apply Kd.R_drewN | apply Kd.R_drew)); exact HO257.out))) (below_size (by repeat (first | (with_reducible first | exact HB.out | apply below_alloc | apply pw_below_drewN | apply below_drew1 | refine below_set ?_ GE251.out) | exact HB.out)))); have n3_ := Aside0.mk (blk_below (g := gb251) (o := .cells #[.string a0_0, .int .i64 a0_1, .slice A0_2 l0_2.length c0_2, .int .i64 a0_3, .slice A0_4 l0_4.length c0_4] 25 (0, 0)) (by (with_reducible repeat (first | refine blk_drewN ?_ _ | refine blk_drew ?_ | refine blk_alloc ?_ _)); exact BK251.out) hb); have n4_ := Aside0.mk (below_step (by repeat (first | (with_reducible first | exact HB.out | apply below_alloc | apply pw_below_drewN | apply below_drew1 | refine below_set ?_ GE251.out) | exact HB.out)) hb); clear HO257; clear HO261; clear BK251; clear HB; have HO257 := n0_; have HO261 := n1_; have HO264 := n2_; have BK251 := n3_; have HB := n4_; clear n0_ n1_ n2_ n3_ n4_; (try clear hb); (try clear hb2); (try clear hk); (try clear hi); (try clear ho0); have hcz26_0 : w25.cell? ⟨gb251, 0, none⟩ = some (.string a0_0) := (blk_cell BK251.out 0).trans rfl; have hcz26_1 : w25.cell? ⟨gb251, 1, none⟩ = some (.int .i64 a0_1) := (blk_cell BK251.out 1).trans rfl; have hcz26_2 : w25.cell? ⟨gb251, 2, none⟩ = some (.slice A0_2 l0_2.length c0_2) := (blk_cell BK251.out 2).trans rfl; have hcz26_3 : w25.cell? ⟨gb251, 3, none⟩ = some (.int .i64 a0_3) := (blk_cell BK251.out 3).trans rfl; have hcz26_4 : w25.cell? ⟨gb251, 4, none⟩ = some (.slice A0_4 l0_4.length c0_4) := (blk_cell BK251.out 4).trans rfl; have hfz26_0 := blk_frozen BK251.out 0; have hfz26_1 := blk_frozen BK251.out 1; have hfz26_2 := blk_frozen BK251.out 2; have hfz26_3 := blk_frozen BK251.out 3; have hfz26_4 := blk_frozen BK251.out 4) | ((with_reducible refine gate_callee (f := 17) rfl ?_); refine goesL_ (some 20) rfl rfl Try.func17 (by kernel_rfl) rfl #[.agg #[.string a0_0, .int .i64 a0_1, .slice A0_2 l0_2.length c0_2, .int .i64 a0_3, .slice A0_4 l0_4.length c0_4]] rfl (by (try simp only [List.map_toArray, List.map_cons, List.map_nil]); first | done | rfl | (simp only [List.length_drop, List.length_take]; rfl)) ?_; (with_reducible refine (laws_toFunc.calls k a0_0 a0_1 _ _ l0_2 a0_3 _ _ l0_4 t265 t266 t267 t270 t271 _ ?side1 ?side2 ?side3 ?side4 A9.out).mono ?_); (case side1 => repeat (first | exact (Kd.C_below HR0_2.out HB.out) | (with_reducible refine Kd.C_alloc ?_ _) | (with_reducible refine Kd.C_drewN ?_ _) | (with_reducible refine Kd.C_drew ?_))); (case side2 => exact HC0_2.out); (case side3 => repeat (first | exact (Kd.C_below HR0_4.out HB.out) | (with_reducible refine Kd.C_alloc ?_ _) | (with_reducible refine Kd.C_drewN ?_ _) | (with_reducible refine Kd.C_drew ?_))); (case side4 => exact HC0_4.out); rintro e w27 ⟨v268, v272, rfl, ho0, ho1, hb⟩; refine ⟨_, rfl, ?_⟩; have n0_ := Aside0.mk (Kd.R_elder' (by (with_reducible repeat (first | apply Kd.R_alloc | apply Kd.R_drewN | apply Kd.R_drew)); exact HO257.out) (Kd.R_base ho0) hb); have n1_ := Aside0.mk (Kd.R_mono (Kd.R_told (Kd.R_told (Kd.R_old (by (with_reducible repeat (first | apply Kd.R_alloc | apply Kd.R_drewN | apply Kd.R_drew)); exact HO261.out) hb) (Kd.R_base ho0)) (Kd.R_base ho1)) (fun _ h_ => h_.1)); have n2_ := Aside0.mk (Kd.R_elder' (by (with_reducible repeat (first | apply Kd.R_alloc | apply Kd.R_drewN | apply Kd.R_drew)); exact HO264.out) (Kd.R_base ho0) hb); have n3_ := Aside0.mk (Kd.R_lower (Kd.R_new' (Kd.R_new' ho0 (Kd.R_lt (by (with_reducible repeat (first | apply Kd.R_alloc | apply Kd.R_drewN | apply Kd.R_drew)); exact HO257.out))) (Kd.R_lt (by (with_reducible repeat (first | apply Kd.R_alloc | apply Kd.R_drewN | apply Kd.R_drew)); exact HO264.out))) (below_size (by repeat (first | (with_reducible first | exact HB.out | apply below_alloc | apply pw_below_drewN | apply below_drew1 | refine below_set ?_ GE251.out) | exact HB.out)))); have n4_ := Aside0.mk (Kd.R_lower (Kd.R_new' (Kd.R_new' (Kd.R_new' ho1 (Kd.R_lt (by (with_reducible repeat (first | apply Kd.R_alloc | apply Kd.R_drewN | apply Kd.R_drew)); exact HO257.out))) (Kd.R_lt (by (with_reducible repeat (first | apply Kd.R_alloc | apply Kd.R_drewN | apply Kd.R_drew)); exact HO261.out))) (Kd.R_lt (by (with_reducible repeat (first | apply Kd.R_alloc | apply Kd.R_drewN | apply Kd.R_drew)); exact HO264.out))) (below_size (by repeat (first | (with_reducible first | exact HB.out | apply below_alloc | apply pw_below_drewN | apply below_drew1 | refine below_set ?_ GE251.out) | exact HB.out)))); have n5_ := Aside0.mk (blk_below (g := gb251) (o := .cells #[.string a0_0, .int .i64 a0_1, .slice A0_2 l0_2.length c0_2, .int .i64 a0_3, .slice A0_4 l0_4.length c0_4] 25 (0, 0)) (by (with_reducible repeat (first | refine blk_drewN ?_ _ | refine blk_drew ?_ | refine blk_alloc ?_ _)); exact BK251.out) hb); have n6_ := Aside0.mk (below_step (by repeat (first | (with_reducible first | exact HB.out | apply below_alloc | apply pw_below_drewN | apply below_drew1 | refine below_set ?_ GE251.out) | exact HB.out)) hb); clear HO257; clear HO261; clear HO264; clear BK251; clear HB; have HO257 := n0_; have HO261 := n1_; have HO264 := n2_; have HO269 := n3_; have HO273 := n4_; have BK251 := n5_; have HB := n6_; clear n0_ n1_ n2_ n3_ n4_ n5_ n6_; (try clear hb); (try clear hb2); (try clear hk); (try clear hi); (try clear ho0); (try clear ho1)) | ((with_reducible refine gate_dst (N := 5) rfl ?_); refine box_event ?hg (N := 5) ?hd (cs := #[.string (⟨#[]⟩ : ByteArray), .int .i64 0, .slice none 0 0, .int .i64 0, .slice none 0 0]) (t := 30) ?hr ?_; (case hd => rfl); (case hg => rfl); (case hr => first | (go_simp; done) | (go_simp; rfl)); intro gb274 hg w28 hbox hb; have n0_ := Aside0.mk (Kd.R_below (by (with_reducible repeat (first | apply Kd.R_alloc | apply Kd.R_drewN | apply Kd.R_drew)); exact HO257.out) hb); have n1_ := Aside0.mk (Kd.R_below (by (with_reducible repeat (first | apply Kd.R_alloc | apply Kd.R_drewN | apply Kd.R_drew)); exact HO261.out) hb); have n2_ := Aside0.mk (Kd.R_below (by (with_reducible repeat (first | apply Kd.R_alloc | apply Kd.R_drewN | apply Kd.R_drew)); exact HO264.out) hb); have n3_ := Aside0.mk (Kd.R_below (by (with_reducible repeat (first | apply Kd.R_alloc | apply Kd.R_drewN | apply Kd.R_drew)); exact HO269.out) hb); have n4_ := Aside0.mk (Kd.R_below (by (with_reducible repeat (first | apply Kd.R_alloc | apply Kd.R_drewN | apply Kd.R_drew)); exact HO273.out) hb); have n5_ := Aside0.mk (blk_below (g := gb251) (o := .cells #[.string a0_0, .int .i64 a0_1, .slice A0_2 l0_2.length c0_2, .int .i64 a0_3, .slice A0_4 l0_4.length c0_4] 25 (0, 0)) (by (with_reducible repeat (first | refine blk_drewN ?_ _ | refine blk_drew ?_ | refine blk_alloc ?_ _)); exact BK251.out) hb); have n6_ := Aside0.mk (below_step (by repeat (first | (with_reducible first | exact HB.out | apply below_alloc | apply pw_below_drewN | apply below_drew1 | refine below_set ?_ GE251.out) | exact HB.out)) hb); have n7_ := Aside0.mk (hbox); have n8_ := Aside0.mk ((by rw [hg]; exact (below_size (by repeat (first | (with_reducible first | exact HB.out | apply below_alloc | apply pw_below_drewN | apply below_drew1 | refine below_set ?_ GE251.out) | exact HB.out))) : w.heap.size ≤ gb274)); have n9_ := Aside0.mk ((by rw [hg]; exact (below_size (by repeat (first | (with_reducible first | exact HB.out | apply below_alloc | apply pw_below_drewN | apply below_drew1 | refine below_set ?_ GE251.out) | exact HB.out))) : w.heap.size ≤ gb274)); have n10_ := Aside0.mk ((by rw [hg]; exact Nat.ne_of_lt (blk_lt (g := gb251) (o := .cells #[.string a0_0, .int .i64 a0_1, .slice A0_2 l0_2.length c0_2, .int .i64 a0_3, .slice A0_4 l0_4.length c0_4] 25 (0, 0)) (by (with_reducible repeat (first | refine blk_drewN ?_ _ | refine blk_drew ?_ | refine blk_alloc ?_ _)); exact BK251.out)) : gb251 ≠ gb274)); have n11_ := Aside0.mk ((by rw [hg]; exact Nat.ne_of_gt (blk_lt (g := gb251) (o := .cells #[.string a0_0, .int .i64 a0_1, .slice A0_2 l0_2.length c0_2, .int .i64 a0_3, .slice A0_4 l0_4.length c0_4] 25 (0, 0)) (by (with_reducible repeat (first | refine blk_drewN ?_ _ | refine blk_drew ?_ | refine blk_alloc ?_ _)); exact BK251.out)) : gb274 ≠ gb251)); clear HO257; clear HO261; clear HO264; clear HO269; clear HO273; clear BK251; clear HB; have HO257 := n0_; have HO261 := n1_; have HO264 := n2_; have HO269 := n3_; have HO273 := n4_; have BK251 := n5_; have HB := n6_; have BK274 := n7_; have GW274 := n8_; have GE274 := n9_; have NB251_274 := n10_; have NB274_251 := n11_; clear n0_ n1_ n2_ n3_ n4_ n5_ n6_ n7_ n8_ n9_ n10_ n11_; clear hb hbox hg; have hnb29 := NB274_251.out; have hnc29 := NB251_274.out; have hcz30_0 : w28.cell? ⟨gb274, 0, none⟩ = some (.string (⟨#[]⟩ : ByteArray)) := (blk_cell BK274.out 0).trans rfl; have hcz30_1 : w28.cell? ⟨gb274, 1, none⟩ = some (.int .i64 0) := (blk_cell BK274.out 1).trans rfl; have hcz30_2 : w28.cell? ⟨gb274, 2, none⟩ = some (.slice none 0 0) := (blk_cell BK274.out 2).trans rfl; have hcz30_3 : w28.cell? ⟨gb274, 3, none⟩ = some (.int .i64 0) := (blk_cell BK274.out 3).trans rfl; have hcz30_4 : w28.cell? ⟨gb274, 4, none⟩ = some (.slice none 0 0) := (blk_cell BK274.out 4).trans rfl; have hfz30_0 := blk_frozen BK274.out 0; have hfz30_1 := blk_frozen BK274.out 1; have hfz30_2 := blk_frozen BK274.out 2; have hfz30_3 := blk_frozen BK274.out 3; have hfz30_4 := blk_frozen BK274.out 4; obtain ⟨Ao31, co31, eo31⟩ := Kd.R_slice HO269.out; subst eo31; obtain ⟨Ao32, co32, eo32⟩ := Kd.R_slice HO273.out; subst eo32) | ((with_reducible refine gate_callee (f := 18) rfl ?_); refine goesL_ (some 22) rfl rfl Try.func18 (by kernel_rfl) rfl #[.agg #[.string t265, .int .i64 t266, .slice Ao31 t267.length co31, .int .i64 t270, .slice Ao32 t271.length co32]] rfl (by (try simp only [List.map_toArray, List.map_cons, List.map_nil]); first | done | rfl | (simp only [List.length_drop, List.length_take]; rfl)) ?_; (with_reducible refine (impl_ValueTypes.calls k t265 t266 _ _ t267 t270 _ _ t271 t275 _ ?side1 ?side2 ?side3 ?side4 A10.out).mono ?_); (case side1 => refine (Kd.R_reads' (e := 2) (base := w.heap.size) (ok := fun k_ => ((True ∧ some k_ ≠ (.slice Ao23 t255.length co23 : Value).ownBlock) ∧ some k_ ≠ (v263 : Value).ownBlock)) (n := t267.length) (c := co31) ?_).2.2; exact (by (with_reducible repeat (first | apply Kd.R_alloc | apply Kd.R_drewN | apply Kd.R_drew)); exact (Kd.R_mono (Kd.R_far (p := ⟨gb274, 4, none⟩) (Kd.R_far (p := ⟨gb274, 3, none⟩) (Kd.R_far (p := ⟨gb274, 2, none⟩) (Kd.R_far (p := ⟨gb274, 1, none⟩) (Kd.R_far (p := ⟨gb274, 0, none⟩) (Kd.R_types HO269.out BK274.out (by decide)) (fun _ hk => hk.2) (.string t265)) (fun _ hk => hk.2) (.int .i64 t266)) (fun _ hk => hk.2) (.slice Ao31 t267.length co31)) (fun _ hk => hk.2) (.int .i64 t270)) (fun _ hk => hk.2) (.slice Ao32 t271.length co32)) (fun _ h_ => h_.1)))); (case side2 => exact (Kd.R_reads' HO269.out).2.1); (case side3 => refine (Kd.R_reads' (e := 100) (base := w.heap.size) (ok := fun k_ => (((some k_ ≠ (.slice Ao31 t267.length co31 : Value).ownBlock ∧ some k_ ≠ (.slice Ao23 t255.length co23 : Value).ownBlock) ∧ some k_ ≠ (.slice Ao24 t259.length co24 : Value).ownBlock) ∧ some k_ ≠ (v263 : Value).ownBlock)) (n := t271.length) (c := co32) ?_).2.2; exact (by (with_reducible repeat (first | apply Kd.R_alloc | apply Kd.R_drewN | apply Kd.R_drew)); exact (Kd.R_mono (Kd.R_far (p := ⟨gb274, 4, none⟩) (Kd.R_far (p := ⟨gb274, 3, none⟩) (Kd.R_far (p := ⟨gb274, 2, none⟩) (Kd.R_far (p := ⟨gb274, 1, none⟩) (Kd.R_far (p := ⟨gb274, 0, none⟩) (Kd.R_types HO273.out BK274.out (by decide)) (fun _ hk => hk.2) (.string t265)) (fun _ hk => hk.2) (.int .i64 t266)) (fun _ hk => hk.2) (.slice Ao31 t267.length co31)) (fun _ hk => hk.2) (.int .i64 t270)) (fun _ hk => hk.2) (.slice Ao32 t271.length co32)) (fun _ h_ => h_.1)))); (case side4 => exact (Kd.R_reads' HO273.out).2.1); rintro e w33 ⟨v276, rfl, ho0, hb⟩; refine ⟨_, rfl, ?_⟩; have n0_ := Aside0.mk (Kd.R_elder' (by (with_reducible repeat (first | apply Kd.R_alloc | apply Kd.R_drewN | apply Kd.R_drew)); exact (Kd.R_mono (Kd.R_far (p := ⟨gb274, 4, none⟩) (Kd.R_far (p := ⟨gb274, 3, none⟩) (Kd.R_far (p := ⟨gb274, 2, none⟩) (Kd.R_far (p := ⟨gb274, 1, none⟩) (Kd.R_far (p := ⟨gb274, 0, none⟩) (Kd.R_types HO257.out BK274.out (by decide)) (fun _ hk => hk.2) (.string t265)) (fun _ hk => hk.2) (.int .i64 t266)) (fun _ hk => hk.2) (.slice Ao31 t267.length co31)) (fun _ hk => hk.2) (.int .i64 t270)) (fun _ hk => hk.2) (.slice Ao32 t271.length co32)) (fun _ h_ => h_.1))) (Kd.R_base ho0) hb); have n1_ := Aside0.mk (Kd.R_elder' (by (with_reducible repeat (first | apply Kd.R_alloc | apply Kd.R_drewN | apply Kd.R_drew)); exact (Kd.R_mono (Kd.R_far (p := ⟨gb274, 4, none⟩) (Kd.R_far (p := ⟨gb274, 3, none⟩) (Kd.R_far (p := ⟨gb274, 2, none⟩) (Kd.R_far (p := ⟨gb274, 1, none⟩) (Kd.R_far (p := ⟨gb274, 0, none⟩) (Kd.R_types HO261.out BK274.out (by decide)) (fun _ hk => hk.2) (.string t265)) (fun _ hk => hk.2) (.int .i64 t266)) (fun _ hk => hk.2) (.slice Ao31 t267.length co31)) (fun _ hk => hk.2) (.int .i64 t270)) (fun _ hk => hk.2) (.slice Ao32 t271.length co32)) (fun _ h_ => h_.1))) (Kd.R_base ho0) hb); have n2_ := Aside0.mk (Kd.R_elder' (by (with_reducible repeat (first | apply Kd.R_alloc | apply Kd.R_drewN | apply Kd.R_drew)); exact (Kd.R_mono (Kd.R_far (p := ⟨gb274, 4, none⟩) (Kd.R_far (p := ⟨gb274, 3, none⟩) (Kd.R_far (p := ⟨gb274, 2, none⟩) (Kd.R_far (p := ⟨gb274, 1, none⟩) (Kd.R_far (p := ⟨gb274, 0, none⟩) (Kd.R_types HO264.out BK274.out (by decide)) (fun _ hk => hk.2) (.string t265)) (fun _ hk => hk.2) (.int .i64 t266)) (fun _ hk => hk.2) (.slice Ao31 t267.length co31)) (fun _ hk => hk.2) (.int .i64 t270)) (fun _ hk => hk.2) (.slice Ao32 t271.length co32)) (fun _ h_ => h_.1))) (Kd.R_base ho0) hb); have n3_ := Aside0.mk (Kd.R_elder' (by (with_reducible repeat (first | apply Kd.R_alloc | apply Kd.R_drewN | apply Kd.R_drew)); exact (Kd.R_mono (Kd.R_far (p := ⟨gb274, 4, none⟩) (Kd.R_far (p := ⟨gb274, 3, none⟩) (Kd.R_far (p := ⟨gb274, 2, none⟩) (Kd.R_far (p := ⟨gb274, 1, none⟩) (Kd.R_far (p := ⟨gb274, 0, none⟩) (Kd.R_types HO269.out BK274.out (by decide)) (fun _ hk => hk.2) (.string t265)) (fun _ hk => hk.2) (.int .i64 t266)) (fun _ hk => hk.2) (.slice Ao31 t267.length co31)) (fun _ hk => hk.2) (.int .i64 t270)) (fun _ hk => hk.2) (.slice Ao32 t271.length co32)) (fun _ h_ => h_.1))) (Kd.R_base ho0) hb); have n4_ := Aside0.mk (Kd.R_elder' (by (with_reducible repeat (first | apply Kd.R_alloc | apply Kd.R_drewN | apply Kd.R_drew)); exact (Kd.R_mono (Kd.R_far (p := ⟨gb274, 4, none⟩) (Kd.R_far (p := ⟨gb274, 3, none⟩) (Kd.R_far (p := ⟨gb274, 2, none⟩) (Kd.R_far (p := ⟨gb274, 1, none⟩) (Kd.R_far (p := ⟨gb274, 0, none⟩) (Kd.R_types HO273.out BK274.out (by decide)) (fun _ hk => hk.2) (.string t265)) (fun _ hk => hk.2) (.int .i64 t266)) (fun _ hk => hk.2) (.slice Ao31 t267.length co31)) (fun _ hk => hk.2) (.int .i64 t270)) (fun _ hk => hk.2) (.slice Ao32 t271.length co32)) (fun _ h_ => h_.1))) (Kd.R_base ho0) hb); have n5_ := Aside0.mk (Kd.R_lower (Kd.R_new' (Kd.R_new' (Kd.R_new' ho0 (Kd.R_lt (by (with_reducible repeat (first | apply Kd.R_alloc | apply Kd.R_drewN | apply Kd.R_drew)); exact (Kd.R_mono (Kd.R_far (p := ⟨gb274, 4, none⟩) (Kd.R_far (p := ⟨gb274, 3, none⟩) (Kd.R_far (p := ⟨gb274, 2, none⟩) (Kd.R_far (p := ⟨gb274, 1, none⟩) (Kd.R_far (p := ⟨gb274, 0, none⟩) (Kd.R_types HO257.out BK274.out (by decide)) (fun _ hk => hk.2) (.string t265)) (fun _ hk => hk.2) (.int .i64 t266)) (fun _ hk => hk.2) (.slice Ao31 t267.length co31)) (fun _ hk => hk.2) (.int .i64 t270)) (fun _ hk => hk.2) (.slice Ao32 t271.length co32)) (fun _ h_ => h_.1))))) (Kd.R_lt (by (with_reducible repeat (first | apply Kd.R_alloc | apply Kd.R_drewN | apply Kd.R_drew)); exact (Kd.R_mono (Kd.R_far (p := ⟨gb274, 4, none⟩) (Kd.R_far (p := ⟨gb274, 3, none⟩) (Kd.R_far (p := ⟨gb274, 2, none⟩) (Kd.R_far (p := ⟨gb274, 1, none⟩) (Kd.R_far (p := ⟨gb274, 0, none⟩) (Kd.R_types HO264.out BK274.out (by decide)) (fun _ hk => hk.2) (.string t265)) (fun _ hk => hk.2) (.int .i64 t266)) (fun _ hk => hk.2) (.slice Ao31 t267.length co31)) (fun _ hk => hk.2) (.int .i64 t270)) (fun _ hk => hk.2) (.slice Ao32 t271.length co32)) (fun _ h_ => h_.1))))) (Kd.R_lt (by (with_reducible repeat (first | apply Kd.R_alloc | apply Kd.R_drewN | apply Kd.R_drew)); exact (Kd.R_mono (Kd.R_far (p := ⟨gb274, 4, none⟩) (Kd.R_far (p := ⟨gb274, 3, none⟩) (Kd.R_far (p := ⟨gb274, 2, none⟩) (Kd.R_far (p := ⟨gb274, 1, none⟩) (Kd.R_far (p := ⟨gb274, 0, none⟩) (Kd.R_types HO269.out BK274.out (by decide)) (fun _ hk => hk.2) (.string t265)) (fun _ hk => hk.2) (.int .i64 t266)) (fun _ hk => hk.2) (.slice Ao31 t267.length co31)) (fun _ hk => hk.2) (.int .i64 t270)) (fun _ hk => hk.2) (.slice Ao32 t271.length co32)) (fun _ h_ => h_.1))))) (below_size (by repeat (first | (with_reducible first | exact HB.out | apply below_alloc | apply pw_below_drewN | apply below_drew1 | refine below_set ?_ GE251.out | refine below_set ?_ GE274.out) | exact HB.out)))); have n6_ := Aside0.mk (blk_below (g := gb251) (o := .cells #[.string a0_0, .int .i64 a0_1, .slice A0_2 l0_2.length c0_2, .int .i64 a0_3, .slice A0_4 l0_4.length c0_4] 25 (0, 0)) (by (with_reducible repeat (first | refine blk_drewN ?_ _ | refine blk_drew ?_ | refine blk_alloc ?_ _)); refine blk_far ?_ NB251_274.out _; (with_reducible repeat (first | refine blk_drewN ?_ _ | refine blk_drew ?_ | refine blk_alloc ?_ _)); refine blk_far ?_ NB251_274.out _; (with_reducible repeat (first | refine blk_drewN ?_ _ | refine blk_drew ?_ | refine blk_alloc ?_ _)); refine blk_far ?_ NB251_274.out _; (with_reducible repeat (first | refine blk_drewN ?_ _ | refine blk_drew ?_ | refine blk_alloc ?_ _)); refine blk_far ?_ NB251_274.out _; (with_reducible repeat (first | refine blk_drewN ?_ _ | refine blk_drew ?_ | refine blk_alloc ?_ _)); refine blk_far ?_ NB251_274.out _; (with_reducible repeat (first | refine blk_drewN ?_ _ | refine blk_drew ?_ | refine blk_alloc ?_ _)); exact BK251.out) hb); have n7_ := Aside0.mk (blk_below (g := gb274) (o := .cells #[.string t265, .int .i64 t266, .slice Ao31 t267.length co31, .int .i64 t270, .slice Ao32 t271.length co32] 30 (0, 0)) (by (with_reducible repeat (first | refine blk_drewN ?_ _ | refine blk_drew ?_ | refine blk_alloc ?_ _)); refine blk_put (cs := #[.string t265, .int .i64 t266, .slice Ao31 t267.length co31, .int .i64 t270, .slice none 0 0]) ?_ 4 _ rfl; (with_reducible repeat (first | refine blk_drewN ?_ _ | refine blk_drew ?_ | refine blk_alloc ?_ _)); refine blk_put (cs := #[.string t265, .int .i64 t266, .slice Ao31 t267.length co31, .int .i64 0, .slice none 0 0]) ?_ 3 _ rfl; (with_reducible repeat (first | refine blk_drewN ?_ _ | refine blk_drew ?_ | refine blk_alloc ?_ _)); refine blk_put (cs := #[.string t265, .int .i64 t266, .slice none 0 0, .int .i64 0, .slice none 0 0]) ?_ 2 _ rfl; (with_reducible repeat (first | refine blk_drewN ?_ _ | refine blk_drew ?_ | refine blk_alloc ?_ _)); refine blk_put (cs := #[.string t265, .int .i64 0, .slice none 0 0, .int .i64 0, .slice none 0 0]) ?_ 1 _ rfl; (with_reducible repeat (first | refine blk_drewN ?_ _ | refine blk_drew ?_ | refine blk_alloc ?_ _)); refine blk_put (cs := #[.string (⟨#[]⟩ : ByteArray), .int .i64 0, .slice none 0 0, .int .i64 0, .slice none 0 0]) ?_ 0 _ rfl; (with_reducible repeat (first | refine blk_drewN ?_ _ | refine blk_drew ?_ | refine blk_alloc ?_ _)); exact BK274.out) hb); have n8_ := Aside0.mk (below_step (by repeat (first | (with_reducible first | exact HB.out | apply below_alloc | apply pw_below_drewN | apply below_drew1 | refine below_set ?_ GE251.out | refine below_set ?_ GE274.out) | exact HB.out)) hb); clear HO257; clear HO261; clear HO264; clear HO269; clear HO273; clear BK251; clear BK274; clear HB; have HO257 := n0_; have HO261 := n1_; have HO264 := n2_; have HO269 := n3_; have HO273 := n4_; have HO277 := n5_; have BK251 := n6_; have BK274 := n7_; have HB := n8_; clear n0_ n1_ n2_ n3_ n4_ n5_ n6_ n7_ n8_; (try clear hb); (try clear hb2); (try clear hk); (try clear hi); (try clear ho0); obtain ⟨Ao34, co34, eo34⟩ := Kd.R_slice HO277.out; subst eo34; obtain ⟨Ao35, co35, eo35⟩ := Kd.R_slice HO264.out; subst eo35) | ((with_reducible refine gate_callee (f := 19) rfl ?_); refine goesL_ (some 25) rfl rfl Try.func19 (by kernel_rfl) rfl #[.slice Ao34 t275.length co34, .slice Ao35 t262.length co35] rfl (by (try simp only [List.map_toArray, List.map_cons, List.map_nil]); first | done | rfl | (simp only [List.length_drop, List.length_take]; rfl)) ?_; (with_reducible refine (laws_eqInt64S.calls k _ _ t275 _ _ t262 true _ ?side1 ?side2 ?side3 ?side4 A11.out).mono ?_); (case side1 => repeat (first | exact (Kd.R_reads' HO277.out).2.2 | (with_reducible refine Kd.C_alloc ?_ _) | (with_reducible refine Kd.C_drewN ?_ _) | (with_reducible refine Kd.C_drew ?_))); (case side2 => exact (Kd.R_reads' HO277.out).2.1); (case side3 => repeat (first | exact (Kd.R_reads' HO264.out).2.2 | (with_reducible refine Kd.C_alloc ?_ _) | (with_reducible refine Kd.C_drewN ?_ _) | (with_reducible refine Kd.C_drew ?_))); (case side4 => exact (Kd.R_reads' HO264.out).2.1); rintro e w' ⟨rfl, ⟨nd, rfl⟩⟩; refine ⟨_, rfl, ?_⟩))
        (try (rw [drewN_self w33]; generalize hq_ : World.drewN w33 _ = w33; have n0_ : Aside0 (Kd.R (Kd.int .i64) 2 w33 w.heap.size (fun k_ => some k_ ≠ (.slice Ao35 t262.length co35 : Value).ownBlock ∧ some k_ ≠ (.slice Ao31 t267.length co31 : Value).ownBlock ∧ some k_ ≠ (.slice Ao34 t275.length co34 : Value).ownBlock) (.slice Ao23 t255.length co23) t255) := ⟨by rw [← hq_]; exact (by (with_reducible repeat (first | apply Kd.R_alloc | apply Kd.R_drewN | apply Kd.R_drew)); exact Kd.R_mono HO257.out (fun _ hk => ⟨hk.1.1.2, ⟨hk.1.2, hk.2⟩⟩))⟩; have n1_ : Aside0 (Kd.R k100 100 w33 w.heap.size (fun k_ => some k_ ≠ (.slice Ao23 t255.length co23 : Value).ownBlock ∧ some k_ ≠ (.slice Ao35 t262.length co35 : Value).ownBlock ∧ some k_ ≠ (.slice Ao31 t267.length co31 : Value).ownBlock ∧ some k_ ≠ (.slice Ao32 t271.length co32 : Value).ownBlock ∧ some k_ ≠ (.slice Ao34 t275.length co34 : Value).ownBlock) (.slice Ao24 t259.length co24) t259) := ⟨by rw [← hq_]; exact (by (with_reducible repeat (first | apply Kd.R_alloc | apply Kd.R_drewN | apply Kd.R_drew)); exact Kd.R_mono HO261.out (fun _ hk => ⟨hk.1.1.1.1, ⟨hk.1.1.1.2, ⟨hk.1.1.2, ⟨hk.1.2, hk.2⟩⟩⟩⟩))⟩; have n2_ : Aside0 (Kd.R (Kd.int .i64) 2 w33 w.heap.size (fun k_ => some k_ ≠ (.slice Ao23 t255.length co23 : Value).ownBlock ∧ some k_ ≠ (.slice Ao31 t267.length co31 : Value).ownBlock ∧ some k_ ≠ (.slice Ao34 t275.length co34 : Value).ownBlock) (.slice Ao35 t262.length co35) t262) := ⟨by rw [← hq_]; exact (by (with_reducible repeat (first | apply Kd.R_alloc | apply Kd.R_drewN | apply Kd.R_drew)); exact Kd.R_mono HO264.out (fun _ hk => ⟨hk.1.1.2, ⟨hk.1.2, hk.2⟩⟩))⟩; have n3_ : Aside0 (Kd.R (Kd.int .i64) 2 w33 w.heap.size (fun k_ => some k_ ≠ (.slice Ao23 t255.length co23 : Value).ownBlock ∧ some k_ ≠ (.slice Ao35 t262.length co35 : Value).ownBlock ∧ some k_ ≠ (.slice Ao34 t275.length co34 : Value).ownBlock) (.slice Ao31 t267.length co31) t267) := ⟨by rw [← hq_]; exact (by (with_reducible repeat (first | apply Kd.R_alloc | apply Kd.R_drewN | apply Kd.R_drew)); exact Kd.R_mono HO269.out (fun _ hk => ⟨hk.1.1.2, ⟨hk.1.2, hk.2⟩⟩))⟩; have n4_ : Aside0 (Kd.R k100 100 w33 w.heap.size (fun k_ => some k_ ≠ (.slice Ao23 t255.length co23 : Value).ownBlock ∧ some k_ ≠ (.slice Ao24 t259.length co24 : Value).ownBlock ∧ some k_ ≠ (.slice Ao35 t262.length co35 : Value).ownBlock ∧ some k_ ≠ (.slice Ao31 t267.length co31 : Value).ownBlock ∧ some k_ ≠ (.slice Ao34 t275.length co34 : Value).ownBlock) (.slice Ao32 t271.length co32) t271) := ⟨by rw [← hq_]; exact (by (with_reducible repeat (first | apply Kd.R_alloc | apply Kd.R_drewN | apply Kd.R_drew)); exact Kd.R_mono HO273.out (fun _ hk => ⟨hk.1.1.1.2, ⟨hk.1.1.2, ⟨hk.1.2, ⟨hk.1.1.1.1, hk.2⟩⟩⟩⟩))⟩; have n5_ : Aside0 (Kd.R (Kd.int .i64) 2 w33 w.heap.size (fun k_ => some k_ ≠ (.slice Ao23 t255.length co23 : Value).ownBlock ∧ some k_ ≠ (.slice Ao35 t262.length co35 : Value).ownBlock ∧ some k_ ≠ (.slice Ao31 t267.length co31 : Value).ownBlock) (.slice Ao34 t275.length co34) t275) := ⟨by rw [← hq_]; exact (by (with_reducible repeat (first | apply Kd.R_alloc | apply Kd.R_drewN | apply Kd.R_drew)); exact Kd.R_mono HO277.out (fun _ hk => ⟨hk.1.1.2, ⟨hk.1.2, hk.2⟩⟩))⟩; have n6_ : Aside0 (w33.heap[gb251]? = some (.cells #[.string a0_0, .int .i64 a0_1, .slice A0_2 l0_2.length c0_2, .int .i64 a0_3, .slice A0_4 l0_4.length c0_4] 25 (0, 0))) := ⟨by rw [← hq_]; exact (by (with_reducible repeat (first | refine blk_drewN ?_ _ | refine blk_drew ?_ | refine blk_alloc ?_ _)); exact BK251.out)⟩; have n7_ : Aside0 (w33.heap[gb274]? = some (.cells #[.string t265, .int .i64 t266, .slice Ao31 t267.length co31, .int .i64 t270, .slice Ao32 t271.length co32] 30 (0, 0))) := ⟨by rw [← hq_]; exact (by (with_reducible repeat (first | refine blk_drewN ?_ _ | refine blk_drew ?_ | refine blk_alloc ?_ _)); exact BK274.out)⟩; have n8_ : Aside0 (Below w.heap.size w w33) := ⟨by rw [← hq_]; exact (by repeat (first | (with_reducible first | exact HB.out | apply below_alloc | apply pw_below_drewN | apply below_drew1 | refine below_set ?_ GE251.out | refine below_set ?_ GE274.out) | exact HB.out))⟩; clear HO257 HO261 HO264 HO269 HO273 HO277 BK251 BK274 HB hq_; have HO257 := n0_; have HO261 := n1_; have HO264 := n2_; have HO269 := n3_; have HO273 := n4_; have HO277 := n5_; have BK251 := n6_; have BK274 := n7_; have HB := n8_; clear n0_ n1_ n2_ n3_ n4_ n5_ n6_ n7_ n8_))
        have n0_ := Aside0.mk (Kd.R_drew HO257.out)
        have n1_ := Aside0.mk (Kd.R_drew HO261.out)
        have n2_ := Aside0.mk (Kd.R_drew HO264.out)
        have n3_ := Aside0.mk (Kd.R_drew HO269.out)
        have n4_ := Aside0.mk (Kd.R_drew HO273.out)
        have n5_ := Aside0.mk (Kd.R_drew HO277.out)
        have n6_ := Aside0.mk (blk_drew BK251.out)
        have n7_ := Aside0.mk (blk_drew BK274.out)
        have n8_ := Aside0.mk (below_drew1 HB.out)
        clear HO257
        clear HO261
        clear HO264
        clear HO269
        clear HO273
        clear HO277
        clear BK251
        clear BK274
        clear HB
        have HO257 := n0_
        have HO261 := n1_
        have HO264 := n2_
        have HO269 := n3_
        have HO273 := n4_
        have HO277 := n5_
        have BK251 := n6_
        have BK274 := n7_
        have HB := n8_
        clear n0_ n1_ n2_ n3_ n4_ n5_ n6_ n7_ n8_
        refine start_ (n := 5) (S := fun w' => w'.cell? ⟨gb274, 0, none⟩ = some (.string t265) ∧ w'.cell? ⟨gb274, 1, none⟩ = some (.int .i64 t266) ∧ w'.cell? ⟨gb274, 2, none⟩ = some (.slice Ao31 t267.length co31) ∧ w'.cell? ⟨gb274, 3, none⟩ = some (.int .i64 t270) ∧ w'.cell? ⟨gb274, 4, none⟩ = some (.slice Ao32 t271.length co32) ∧ w'.cell? ⟨gb251, 0, none⟩ = some (.string a0_0) ∧ w'.cell? ⟨gb251, 1, none⟩ = some (.int .i64 a0_1) ∧ w'.cell? ⟨gb251, 2, none⟩ = some (.slice A0_2 l0_2.length c0_2) ∧ w'.cell? ⟨gb251, 3, none⟩ = some (.int .i64 a0_3) ∧ w'.cell? ⟨gb251, 4, none⟩ = some (.slice A0_4 l0_4.length c0_4)) (ds := []) #[false, false, false, false, false] (by kernel_rfl) rfl rfl ⟨(blk_cell BK274.out 0).trans rfl, (blk_cell BK274.out 1).trans rfl, (blk_cell BK274.out 2).trans rfl, (blk_cell BK274.out 3).trans rfl, (blk_cell BK274.out 4).trans rfl, (blk_cell BK251.out 0).trans rfl, (blk_cell BK251.out 1).trans rfl, (blk_cell BK251.out 2).trans rfl, (blk_cell BK251.out 3).trans rfl, (blk_cell BK251.out 4).trans rfl⟩ (fun hHeld => ?_)
        generalize w33.drew = w36 at HO257 HO261 HO264 HO269 HO273 HO277 BK251 BK274 HB hHeld ⊢
        refine take_ (i := 0) (N := some 27) (v := ?_) (a' := ?_) #[true, false, false, false, false] rfl rfl (by kernel_rfl) (fun _ _ _ h => h) (Or.inl ⟨by rfl, ?_⟩) hHeld ?_ ?_
        rotate_left
        · rintro w' ⟨s0, s1, s2, s3, s4, s5, s6, s7, s8, s9⟩
          go_simp
          with_reducible rfl
        rotate_left
        · simp only [Act.put, List.setIfInBounds_toArray, List.set_cons_zero, List.set_cons_succ, i64_w, i32_w]
          rfl
        refine take_ (i := 1) (N := some 28) (v := ?_) (a' := ?_) #[true, true, false, false, false] rfl rfl (by kernel_rfl) (fun _ _ _ h => h) (Or.inl ⟨by rfl, ?_⟩) hHeld ?_ ?_
        rotate_left
        · rintro w' ⟨s0, s1, s2, s3, s4, s5, s6, s7, s8, s9⟩
          go_simp
          with_reducible rfl
        rotate_left
        · simp only [Act.put, List.setIfInBounds_toArray, List.set_cons_zero, List.set_cons_succ, i64_w, i32_w]
          rfl
        refine one_ (i := 2) (N := some 29) #[true, true, true, false, false] rfl rfl (by kernel_rfl) (by decide) (fun K hK => ?_)
        refine goes_ Try.func17 (by kernel_rfl) rfl #[.agg #[.string a0_0, .int .i64 a0_1, .slice A0_2 l0_2.length c0_2, .int .i64 a0_3, .slice A0_4 l0_4.length c0_4]] (by rfl) rfl rfl (by (try simp only [List.map_toArray, List.map_cons, List.map_nil]); first | done | rfl | (simp only [List.length_drop, List.length_take]; rfl)) ?_
        with_reducible refine (laws_toFunc.calls k a0_0 a0_1 _ _ l0_2 a0_3 _ _ l0_4 t279 t280 t281 t284 t285 _ ?side1 ?side2 ?side3 ?side4 A13.out).mono ?_
        (case side1 => repeat (first | exact (Kd.C_below HR0_2.out HB.out) | (with_reducible refine Kd.C_alloc ?_ _) | (with_reducible refine Kd.C_drewN ?_ _) | (with_reducible refine Kd.C_drew ?_)))
        (case side2 => exact HC0_2.out)
        (case side3 => repeat (first | exact (Kd.C_below HR0_4.out HB.out) | (with_reducible refine Kd.C_alloc ?_ _) | (with_reducible refine Kd.C_drewN ?_ _) | (with_reducible refine Kd.C_drew ?_)))
        (case side4 => exact HC0_4.out)
        rintro e w37 ⟨v282, v286, rfl, ho0, ho1, hb⟩
        refine ⟨_, rfl, ?_⟩
        have n0_ := Aside0.mk (Kd.R_elder' (by (with_reducible repeat (first | apply Kd.R_alloc | apply Kd.R_drewN | apply Kd.R_drew)); exact HO257.out) (Kd.R_base ho0) hb)
        have n1_ := Aside0.mk (Kd.R_mono (Kd.R_told (Kd.R_told (Kd.R_old (by (with_reducible repeat (first | apply Kd.R_alloc | apply Kd.R_drewN | apply Kd.R_drew)); exact HO261.out) hb) (Kd.R_base ho0)) (Kd.R_base ho1)) (fun _ h_ => h_.1))
        have n2_ := Aside0.mk (Kd.R_elder' (by (with_reducible repeat (first | apply Kd.R_alloc | apply Kd.R_drewN | apply Kd.R_drew)); exact HO264.out) (Kd.R_base ho0) hb)
        have n3_ := Aside0.mk (Kd.R_elder' (by (with_reducible repeat (first | apply Kd.R_alloc | apply Kd.R_drewN | apply Kd.R_drew)); exact HO269.out) (Kd.R_base ho0) hb)
        have n4_ := Aside0.mk (Kd.R_mono (Kd.R_told (Kd.R_told (Kd.R_old (by (with_reducible repeat (first | apply Kd.R_alloc | apply Kd.R_drewN | apply Kd.R_drew)); exact HO273.out) hb) (Kd.R_base ho0)) (Kd.R_base ho1)) (fun _ h_ => h_.1))
        have n5_ := Aside0.mk (Kd.R_elder' (by (with_reducible repeat (first | apply Kd.R_alloc | apply Kd.R_drewN | apply Kd.R_drew)); exact HO277.out) (Kd.R_base ho0) hb)
        have n6_ := Aside0.mk (Kd.R_lower (Kd.R_new' (Kd.R_new' (Kd.R_new' (Kd.R_new' ho0 (Kd.R_lt (by (with_reducible repeat (first | apply Kd.R_alloc | apply Kd.R_drewN | apply Kd.R_drew)); exact HO257.out))) (Kd.R_lt (by (with_reducible repeat (first | apply Kd.R_alloc | apply Kd.R_drewN | apply Kd.R_drew)); exact HO264.out))) (Kd.R_lt (by (with_reducible repeat (first | apply Kd.R_alloc | apply Kd.R_drewN | apply Kd.R_drew)); exact HO269.out))) (Kd.R_lt (by (with_reducible repeat (first | apply Kd.R_alloc | apply Kd.R_drewN | apply Kd.R_drew)); exact HO277.out))) (below_size (by repeat (first | (with_reducible first | exact HB.out | apply below_alloc | apply pw_below_drewN | apply below_drew1 | refine below_set ?_ GE251.out | refine below_set ?_ GE274.out) | exact HB.out))))
        have n7_ := Aside0.mk (Kd.R_lower (Kd.R_new' (Kd.R_new' (Kd.R_new' (Kd.R_new' (Kd.R_new' (Kd.R_new' ho1 (Kd.R_lt (by (with_reducible repeat (first | apply Kd.R_alloc | apply Kd.R_drewN | apply Kd.R_drew)); exact HO257.out))) (Kd.R_lt (by (with_reducible repeat (first | apply Kd.R_alloc | apply Kd.R_drewN | apply Kd.R_drew)); exact HO261.out))) (Kd.R_lt (by (with_reducible repeat (first | apply Kd.R_alloc | apply Kd.R_drewN | apply Kd.R_drew)); exact HO264.out))) (Kd.R_lt (by (with_reducible repeat (first | apply Kd.R_alloc | apply Kd.R_drewN | apply Kd.R_drew)); exact HO269.out))) (Kd.R_lt (by (with_reducible repeat (first | apply Kd.R_alloc | apply Kd.R_drewN | apply Kd.R_drew)); exact HO273.out))) (Kd.R_lt (by (with_reducible repeat (first | apply Kd.R_alloc | apply Kd.R_drewN | apply Kd.R_drew)); exact HO277.out))) (below_size (by repeat (first | (with_reducible first | exact HB.out | apply below_alloc | apply pw_below_drewN | apply below_drew1 | refine below_set ?_ GE251.out | refine below_set ?_ GE274.out) | exact HB.out))))
        have n8_ := Aside0.mk (blk_below (g := gb251) (o := .cells #[.string a0_0, .int .i64 a0_1, .slice A0_2 l0_2.length c0_2, .int .i64 a0_3, .slice A0_4 l0_4.length c0_4] 25 (0, 0)) (by (with_reducible repeat (first | refine blk_drewN ?_ _ | refine blk_drew ?_ | refine blk_alloc ?_ _)); exact BK251.out) hb)
        have n9_ := Aside0.mk (blk_below (g := gb274) (o := .cells #[.string t265, .int .i64 t266, .slice Ao31 t267.length co31, .int .i64 t270, .slice Ao32 t271.length co32] 30 (0, 0)) (by (with_reducible repeat (first | refine blk_drewN ?_ _ | refine blk_drew ?_ | refine blk_alloc ?_ _)); exact BK274.out) hb)
        have n10_ := Aside0.mk (below_step (by repeat (first | (with_reducible first | exact HB.out | apply below_alloc | apply pw_below_drewN | apply below_drew1 | refine below_set ?_ GE251.out | refine below_set ?_ GE274.out) | exact HB.out)) hb)
        clear HO257
        clear HO261
        clear HO264
        clear HO269
        clear HO273
        clear HO277
        clear BK251
        clear BK274
        clear HB
        have HO257 := n0_
        have HO261 := n1_
        have HO264 := n2_
        have HO269 := n3_
        have HO273 := n4_
        have HO277 := n5_
        have HO283 := n6_
        have HO287 := n7_
        have BK251 := n8_
        have BK274 := n9_
        have HB := n10_
        clear n0_ n1_ n2_ n3_ n4_ n5_ n6_ n7_ n8_ n9_ n10_
        (try clear hb)
        (try clear hb2)
        (try clear hk)
        (try clear hi)
        (try clear ho0)
        (try clear ho1)
        obtain ⟨Ao38, co38, eo38⟩ := Kd.R_slice HO283.out
        (first | subst eo38 | (injection eo38 with f1_ f2_ f3_; have f4_ := f1_.symm; have f5_ := f3_.symm; clear f1_ f2_ f3_; subst f4_; subst f5_))
        obtain ⟨Ao39, co39, eo39⟩ := Kd.R_slice HO287.out
        (first | subst eo39 | (injection eo39 with f1_ f2_ f3_; have f4_ := f1_.symm; have f5_ := f3_.symm; clear f1_ f2_ f3_; subst f4_; subst f5_))
        refine hK.out _ _ ⟨(blk_cell BK274.out 0).trans rfl, (blk_cell BK274.out 1).trans rfl, (blk_cell BK274.out 2).trans rfl, (blk_cell BK274.out 3).trans rfl, (blk_cell BK274.out 4).trans rfl, (blk_cell BK251.out 0).trans rfl, (blk_cell BK251.out 1).trans rfl, (blk_cell BK251.out 2).trans rfl, (blk_cell BK251.out 3).trans rfl, (blk_cell BK251.out 4).trans rfl⟩ (fun hHeld => ?_)
        clear hK K
        refine norm_ (a' := ?_) ?_ ?_
        rotate_left
        · show Act.put _ (some 29) _ = _
          simp only [Act.put, List.setIfInBounds_toArray, List.set_cons_zero, List.set_cons_succ, i64_w, i32_w]
          rfl
        refine one_ (i := 3) (N := some 30) #[true, true, true, true, false] rfl rfl (by kernel_rfl) (by decide) (fun K hK => ?_)
        refine goes_ Try.func20 (by kernel_rfl) rfl #[.agg #[.string t265, .int .i64 t266, .slice Ao31 t267.length co31, .int .i64 t270, .slice Ao32 t271.length co32], .agg #[.string t279, .int .i64 t280, .slice Ao38 t281.length co38, .int .i64 t284, .slice Ao39 t285.length co39]] (by rfl) rfl rfl (by (try simp only [List.map_toArray, List.map_cons, List.map_nil]); first | done | rfl | (simp only [List.length_drop, List.length_take]; rfl)) ?_
        with_reducible refine (laws_eqFunc.calls k t265 t266 _ _ t267 t270 _ _ t271 t279 t280 _ _ t281 t284 _ _ t285 true _ ?side1 ?side2 ?side3 ?side4 ?side5 ?side6 ?side7 ?side8 A14.out).mono ?_
        (case side1 => repeat (first | exact (Kd.R_reads' HO269.out).2.2 | (with_reducible refine Kd.C_alloc ?_ _) | (with_reducible refine Kd.C_drewN ?_ _) | (with_reducible refine Kd.C_drew ?_)))
        (case side2 => exact (Kd.R_reads' HO269.out).2.1)
        (case side3 => repeat (first | exact (Kd.R_reads' HO273.out).2.2 | (with_reducible refine Kd.C_alloc ?_ _) | (with_reducible refine Kd.C_drewN ?_ _) | (with_reducible refine Kd.C_drew ?_)))
        (case side4 => exact (Kd.R_reads' HO273.out).2.1)
        (case side5 => repeat (first | exact (Kd.R_reads' HO283.out).2.2 | (with_reducible refine Kd.C_alloc ?_ _) | (with_reducible refine Kd.C_drewN ?_ _) | (with_reducible refine Kd.C_drew ?_)))
        (case side6 => exact (Kd.R_reads' HO283.out).2.1)
        (case side7 => repeat (first | exact (Kd.R_reads' HO287.out).2.2 | (with_reducible refine Kd.C_alloc ?_ _) | (with_reducible refine Kd.C_drewN ?_ _) | (with_reducible refine Kd.C_drew ?_)))
        (case side8 => exact (Kd.R_reads' HO287.out).2.1)
        rintro e w40 ⟨rfl, hb⟩
        refine ⟨_, rfl, ?_⟩
        have n0_ := Aside0.mk (Kd.R_below (by (with_reducible repeat (first | apply Kd.R_alloc | apply Kd.R_drewN | apply Kd.R_drew)); exact HO257.out) hb)
        have n1_ := Aside0.mk (Kd.R_below (by (with_reducible repeat (first | apply Kd.R_alloc | apply Kd.R_drewN | apply Kd.R_drew)); exact HO261.out) hb)
        have n2_ := Aside0.mk (Kd.R_below (by (with_reducible repeat (first | apply Kd.R_alloc | apply Kd.R_drewN | apply Kd.R_drew)); exact HO264.out) hb)
        have n3_ := Aside0.mk (Kd.R_below (by (with_reducible repeat (first | apply Kd.R_alloc | apply Kd.R_drewN | apply Kd.R_drew)); exact HO269.out) hb)
        have n4_ := Aside0.mk (Kd.R_below (by (with_reducible repeat (first | apply Kd.R_alloc | apply Kd.R_drewN | apply Kd.R_drew)); exact HO273.out) hb)
        have n5_ := Aside0.mk (Kd.R_below (by (with_reducible repeat (first | apply Kd.R_alloc | apply Kd.R_drewN | apply Kd.R_drew)); exact HO277.out) hb)
        have n6_ := Aside0.mk (Kd.R_below (by (with_reducible repeat (first | apply Kd.R_alloc | apply Kd.R_drewN | apply Kd.R_drew)); exact HO283.out) hb)
        have n7_ := Aside0.mk (Kd.R_below (by (with_reducible repeat (first | apply Kd.R_alloc | apply Kd.R_drewN | apply Kd.R_drew)); exact HO287.out) hb)
        have n8_ := Aside0.mk (blk_below (g := gb251) (o := .cells #[.string a0_0, .int .i64 a0_1, .slice A0_2 l0_2.length c0_2, .int .i64 a0_3, .slice A0_4 l0_4.length c0_4] 25 (0, 0)) (by (with_reducible repeat (first | refine blk_drewN ?_ _ | refine blk_drew ?_ | refine blk_alloc ?_ _)); exact BK251.out) hb)
        have n9_ := Aside0.mk (blk_below (g := gb274) (o := .cells #[.string t265, .int .i64 t266, .slice Ao31 t267.length co31, .int .i64 t270, .slice Ao32 t271.length co32] 30 (0, 0)) (by (with_reducible repeat (first | refine blk_drewN ?_ _ | refine blk_drew ?_ | refine blk_alloc ?_ _)); exact BK274.out) hb)
        have n10_ := Aside0.mk (below_step (by repeat (first | (with_reducible first | exact HB.out | apply below_alloc | apply pw_below_drewN | apply below_drew1 | refine below_set ?_ GE251.out | refine below_set ?_ GE274.out) | exact HB.out)) hb)
        clear HO257
        clear HO261
        clear HO264
        clear HO269
        clear HO273
        clear HO277
        clear HO283
        clear HO287
        clear BK251
        clear BK274
        clear HB
        have HO257 := n0_
        have HO261 := n1_
        have HO264 := n2_
        have HO269 := n3_
        have HO273 := n4_
        have HO277 := n5_
        have HO283 := n6_
        have HO287 := n7_
        have BK251 := n8_
        have BK274 := n9_
        have HB := n10_
        clear n0_ n1_ n2_ n3_ n4_ n5_ n6_ n7_ n8_ n9_ n10_
        (try clear hb)
        (try clear hb2)
        (try clear hk)
        (try clear hi)
        refine hK.out _ _ ⟨(blk_cell BK274.out 0).trans rfl, (blk_cell BK274.out 1).trans rfl, (blk_cell BK274.out 2).trans rfl, (blk_cell BK274.out 3).trans rfl, (blk_cell BK274.out 4).trans rfl, (blk_cell BK251.out 0).trans rfl, (blk_cell BK251.out 1).trans rfl, (blk_cell BK251.out 2).trans rfl, (blk_cell BK251.out 3).trans rfl, (blk_cell BK251.out 4).trans rfl⟩ (fun hHeld => ?_)
        clear hK K
        refine norm_ (a' := ?_) ?_ ?_
        rotate_left
        · show Act.put _ (some 30) _ = _
          simp only [Act.put, List.setIfInBounds_toArray, List.set_cons_zero, List.set_cons_succ, i64_w, i32_w]
          rfl
        refine pure_ (i := 4) (N := some 31) (v := ?_) (a' := ?_) #[true, true, true, true, true] rfl rfl (by kernel_rfl) (fun _ _ _ h => h) (Or.inl ⟨by rfl, ?_⟩) ?_ ?_
        rotate_left
        · intro w'
          go_simp
          with_reducible rfl
        rotate_left
        · simp only [Act.put, List.setIfInBounds_toArray, List.set_cons_zero, List.set_cons_succ, i64_w, i32_w]
          rfl
        refine done_ (by kernel_rfl) ?_
        have hcz41_0 : w40.cell? ⟨gb274, 0, none⟩ = some (.string t265) := (blk_cell BK274.out 0).trans rfl
        have hcz41_1 : w40.cell? ⟨gb274, 1, none⟩ = some (.int .i64 t266) := (blk_cell BK274.out 1).trans rfl
        have hcz41_2 : w40.cell? ⟨gb274, 2, none⟩ = some (.slice Ao31 t267.length co31) := (blk_cell BK274.out 2).trans rfl
        have hcz41_3 : w40.cell? ⟨gb274, 3, none⟩ = some (.int .i64 t270) := (blk_cell BK274.out 3).trans rfl
        have hcz41_4 : w40.cell? ⟨gb274, 4, none⟩ = some (.slice Ao32 t271.length co32) := (blk_cell BK274.out 4).trans rfl
        have hfz41_0 := blk_frozen BK274.out 0
        have hfz41_1 := blk_frozen BK274.out 1
        have hfz41_2 := blk_frozen BK274.out 2
        have hfz41_3 := blk_frozen BK274.out 3
        have hfz41_4 := blk_frozen BK274.out 4
        go_upto_region 14 with (first | ((with_reducible refine gate_callee (f := 21) rfl ?_); refine goesL_ (some 34) rfl rfl Try.func21 (by kernel_rfl) rfl #[.agg #[.string t265, .int .i64 t266, .slice Ao31 t267.length co31, .int .i64 t270, .slice Ao32 t271.length co32], .int .i64 1] rfl (by (try simp only [List.map_toArray, List.map_cons, List.map_nil]); first | done | rfl | (simp only [List.length_drop, List.length_take]; rfl)) ?_; (with_reducible refine (laws_markFunc.calls k t265 t266 (fun k_ => some k_ = (.slice Ao31 t267.length co31 : Value).ownBlock) (.slice Ao31 t267.length co31) t267 t270 ?P1_ (.slice Ao32 t271.length co32) t271 1 t289 w _ ?side1 ?side2 ?side3 A16.out).mono ?_); (case side1 => repeat (first | (with_reducible first | exact HB.out | apply below_alloc | apply pw_below_drewN | apply below_drew1 | refine below_set ?_ GE251.out | refine below_set ?_ GE274.out) | exact HB.out)); (case side2 => exact Kd.R_tight rfl HO269.out); (case side3 => exact Kd.R_bound HO273.out); rintro e w42 ⟨rfl, hb, hkp⟩; refine ⟨_, rfl, ?_⟩; have n0_ := Aside0.mk (blk_kept BK251.out hkp (fun hs_ => Or.elim hs_ (fun e_ => (Kd.R_ne HO269.out BK251.out (by decide)) e_) (fun e_ => by obtain ⟨_, _, _, q_, hq_, c_, hc_⟩ := e_; have e2_ := BK251.out.symm.trans hc_; injection e2_ with e2_; injection e2_ with _ e3_ _; subst e3_; revert hq_; decide))); have n1_ := Aside0.mk (Kd.R_mono (ok' := fun k_ => some k_ ≠ (.slice Ao23 t255.length co23 : Value).ownBlock ∧ some k_ ≠ (.slice Ao34 t275.length co34 : Value).ownBlock ∧ some k_ ≠ (.slice Ao38 t281.length co38 : Value).ownBlock) (Kd.R_keptB (R_tight2 rfl HO264.out) hkp (fun k_ hk_ hs_ => Or.elim hs_ (fun e_ => (by first | exact hk_ e_ | exact hk_.2 e_ | exact hk_.2.1 e_ | exact hk_.2.2 e_ | exact hk_.2.2.1 e_ | exact hk_.2.2.2 e_ | exact hk_.2.2.2.1 e_ | exact hk_.2.2.2.2 e_ | exact hk_.2.2.2.2.1 e_ | exact hk_.1 e_ | exact hk_.1.2 e_ | exact hk_.1.2.1 e_ | exact hk_.1.2.2 e_ | exact hk_.1.2.2.1 e_ | exact hk_.1.2.2.2 e_ | exact hk_.1.2.2.2.1 e_ | exact hk_.1.2.2.2.2 e_ | exact hk_.1.2.2.2.2.1 e_ | exact hk_.1.1 e_ | exact hk_.1.1.2 e_ | exact hk_.1.1.2.1 e_ | exact hk_.1.1.2.2 e_ | exact hk_.1.1.2.2.1 e_ | exact hk_.1.1.2.2.2 e_ | exact hk_.1.1.2.2.2.1 e_ | exact hk_.1.1.2.2.2.2 e_ | exact hk_.1.1.2.2.2.2.1 e_ | exact hk_.1.1.1 e_ | exact hk_.1.1.1.2 e_ | exact hk_.1.1.1.2.1 e_ | exact hk_.1.1.1.2.2 e_ | exact hk_.1.1.1.2.2.1 e_ | exact hk_.1.1.1.2.2.2 e_ | exact hk_.1.1.1.2.2.2.1 e_ | exact hk_.1.1.1.2.2.2.2 e_ | exact hk_.1.1.1.2.2.2.2.1 e_ | exact hk_.1.1.1.1 e_ | exact hk_.1.1.1.1.2 e_ | exact hk_.1.1.1.1.2.1 e_ | exact hk_.1.1.1.1.2.2 e_ | exact hk_.1.1.1.1.2.2.1 e_ | exact hk_.1.1.1.1.2.2.2 e_ | exact hk_.1.1.1.1.2.2.2.1 e_ | exact hk_.1.1.1.1.2.2.2.2 e_ | exact hk_.1.1.1.1.2.2.2.2.1 e_ | exact hk_.1.1.1.1.1 e_ | exact hk_.1.1.1.1.1.2 e_ | exact hk_.1.1.1.1.1.2.1 e_ | exact hk_.1.1.1.1.1.2.2 e_ | exact hk_.1.1.1.1.1.2.2.1 e_ | exact hk_.1.1.1.1.1.2.2.2 e_ | exact hk_.1.1.1.1.1.2.2.2.1 e_ | exact hk_.1.1.1.1.1.2.2.2.2 e_ | exact hk_.1.1.1.1.1.2.2.2.2.1 e_)) (fun e_ => (by first | exact e_.1 hk_.2 | exact e_.1.2 hk_.2 | exact e_.1.2.1 hk_.2 | exact e_.1.2.2 hk_.2 | exact e_.1.2.2.1 hk_.2 | exact e_.1.2.2.2 hk_.2 | exact e_.1.2.2.2.1 hk_.2 | exact e_.1.2.2.2.2 hk_.2 | exact e_.1.2.2.2.2.1 hk_.2 | exact e_.1.1 hk_.2 | exact e_.1.1.2 hk_.2 | exact e_.1.1.2.1 hk_.2 | exact e_.1.1.2.2 hk_.2 | exact e_.1.1.2.2.1 hk_.2 | exact e_.1.1.2.2.2 hk_.2 | exact e_.1.1.2.2.2.1 hk_.2 | exact e_.1.1.2.2.2.2 hk_.2 | exact e_.1.1.2.2.2.2.1 hk_.2 | exact e_.1.1.1 hk_.2 | exact e_.1.1.1.2 hk_.2 | exact e_.1.1.1.2.1 hk_.2 | exact e_.1.1.1.2.2 hk_.2 | exact e_.1.1.1.2.2.1 hk_.2 | exact e_.1.1.1.2.2.2 hk_.2 | exact e_.1.1.1.2.2.2.1 hk_.2 | exact e_.1.1.1.2.2.2.2 hk_.2 | exact e_.1.1.1.2.2.2.2.1 hk_.2 | exact e_.1.1.1.1 hk_.2 | exact e_.1.1.1.1.2 hk_.2 | exact e_.1.1.1.1.2.1 hk_.2 | exact e_.1.1.1.1.2.2 hk_.2 | exact e_.1.1.1.1.2.2.1 hk_.2 | exact e_.1.1.1.1.2.2.2 hk_.2 | exact e_.1.1.1.1.2.2.2.1 hk_.2 | exact e_.1.1.1.1.2.2.2.2 hk_.2 | exact e_.1.1.1.1.2.2.2.2.1 hk_.2 | exact e_.1.1.1.1.1 hk_.2 | exact e_.1.1.1.1.1.2 hk_.2 | exact e_.1.1.1.1.1.2.1 hk_.2 | exact e_.1.1.1.1.1.2.2 hk_.2 | exact e_.1.1.1.1.1.2.2.1 hk_.2 | exact e_.1.1.1.1.1.2.2.2 hk_.2 | exact e_.1.1.1.1.1.2.2.2.1 hk_.2 | exact e_.1.1.1.1.1.2.2.2.2 hk_.2 | exact e_.1.1.1.1.1.2.2.2.2.1 hk_.2 | exact e_.1.1.1.1.1.1 hk_.2 | exact e_.1.1.1.1.1.1.2 hk_.2 | exact e_.1.1.1.1.1.1.2.1 hk_.2 | exact e_.1.1.1.1.1.1.2.2 hk_.2 | exact e_.1.1.1.1.1.1.2.2.1 hk_.2 | exact e_.1.1.1.1.1.1.2.2.2 hk_.2 | exact e_.1.1.1.1.1.1.2.2.2.1 hk_.2 | exact e_.1.1.1.1.1.1.2.2.2.2 hk_.2 | exact e_.1.1.1.1.1.1.2.2.2.2.1 hk_.2)))) (fun k_ hk_ => ⟨(by first | exact hk_ | exact hk_.2 | exact hk_.2.1 | exact hk_.2.2 | exact hk_.2.2.1 | exact hk_.2.2.2 | exact hk_.2.2.2.1 | exact hk_.2.2.2.2 | exact hk_.2.2.2.2.1 | exact hk_.1 | exact hk_.1.2 | exact hk_.1.2.1 | exact hk_.1.2.2 | exact hk_.1.2.2.1 | exact hk_.1.2.2.2 | exact hk_.1.2.2.2.1 | exact hk_.1.2.2.2.2 | exact hk_.1.2.2.2.2.1 | exact hk_.1.1 | exact hk_.1.1.2 | exact hk_.1.1.2.1 | exact hk_.1.1.2.2 | exact hk_.1.1.2.2.1 | exact hk_.1.1.2.2.2 | exact hk_.1.1.2.2.2.1 | exact hk_.1.1.2.2.2.2 | exact hk_.1.1.2.2.2.2.1 | exact hk_.1.1.1 | exact hk_.1.1.1.2 | exact hk_.1.1.1.2.1 | exact hk_.1.1.1.2.2 | exact hk_.1.1.1.2.2.1 | exact hk_.1.1.1.2.2.2 | exact hk_.1.1.1.2.2.2.1 | exact hk_.1.1.1.2.2.2.2 | exact hk_.1.1.1.2.2.2.2.1 | exact hk_.1.1.1.1 | exact hk_.1.1.1.1.2 | exact hk_.1.1.1.1.2.1 | exact hk_.1.1.1.1.2.2 | exact hk_.1.1.1.1.2.2.1 | exact hk_.1.1.1.1.2.2.2 | exact hk_.1.1.1.1.2.2.2.1 | exact hk_.1.1.1.1.2.2.2.2 | exact hk_.1.1.1.1.2.2.2.2.1 | exact hk_.1.1.1.1.1 | exact hk_.1.1.1.1.1.2 | exact hk_.1.1.1.1.1.2.1 | exact hk_.1.1.1.1.1.2.2 | exact hk_.1.1.1.1.1.2.2.1 | exact hk_.1.1.1.1.1.2.2.2 | exact hk_.1.1.1.1.1.2.2.2.1 | exact hk_.1.1.1.1.1.2.2.2.2 | exact hk_.1.1.1.1.1.2.2.2.2.1), (by first | exact hk_ | exact hk_.2 | exact hk_.2.1 | exact hk_.2.2 | exact hk_.2.2.1 | exact hk_.2.2.2 | exact hk_.2.2.2.1 | exact hk_.2.2.2.2 | exact hk_.2.2.2.2.1 | exact hk_.1 | exact hk_.1.2 | exact hk_.1.2.1 | exact hk_.1.2.2 | exact hk_.1.2.2.1 | exact hk_.1.2.2.2 | exact hk_.1.2.2.2.1 | exact hk_.1.2.2.2.2 | exact hk_.1.2.2.2.2.1 | exact hk_.1.1 | exact hk_.1.1.2 | exact hk_.1.1.2.1 | exact hk_.1.1.2.2 | exact hk_.1.1.2.2.1 | exact hk_.1.1.2.2.2 | exact hk_.1.1.2.2.2.1 | exact hk_.1.1.2.2.2.2 | exact hk_.1.1.2.2.2.2.1 | exact hk_.1.1.1 | exact hk_.1.1.1.2 | exact hk_.1.1.1.2.1 | exact hk_.1.1.1.2.2 | exact hk_.1.1.1.2.2.1 | exact hk_.1.1.1.2.2.2 | exact hk_.1.1.1.2.2.2.1 | exact hk_.1.1.1.2.2.2.2 | exact hk_.1.1.1.2.2.2.2.1 | exact hk_.1.1.1.1 | exact hk_.1.1.1.1.2 | exact hk_.1.1.1.1.2.1 | exact hk_.1.1.1.1.2.2 | exact hk_.1.1.1.1.2.2.1 | exact hk_.1.1.1.1.2.2.2 | exact hk_.1.1.1.1.2.2.2.1 | exact hk_.1.1.1.1.2.2.2.2 | exact hk_.1.1.1.1.2.2.2.2.1 | exact hk_.1.1.1.1.1 | exact hk_.1.1.1.1.1.2 | exact hk_.1.1.1.1.1.2.1 | exact hk_.1.1.1.1.1.2.2 | exact hk_.1.1.1.1.1.2.2.1 | exact hk_.1.1.1.1.1.2.2.2 | exact hk_.1.1.1.1.1.2.2.2.1 | exact hk_.1.1.1.1.1.2.2.2.2 | exact hk_.1.1.1.1.1.2.2.2.2.1), (by first | exact hk_ | exact hk_.2 | exact hk_.2.1 | exact hk_.2.2 | exact hk_.2.2.1 | exact hk_.2.2.2 | exact hk_.2.2.2.1 | exact hk_.2.2.2.2 | exact hk_.2.2.2.2.1 | exact hk_.1 | exact hk_.1.2 | exact hk_.1.2.1 | exact hk_.1.2.2 | exact hk_.1.2.2.1 | exact hk_.1.2.2.2 | exact hk_.1.2.2.2.1 | exact hk_.1.2.2.2.2 | exact hk_.1.2.2.2.2.1 | exact hk_.1.1 | exact hk_.1.1.2 | exact hk_.1.1.2.1 | exact hk_.1.1.2.2 | exact hk_.1.1.2.2.1 | exact hk_.1.1.2.2.2 | exact hk_.1.1.2.2.2.1 | exact hk_.1.1.2.2.2.2 | exact hk_.1.1.2.2.2.2.1 | exact hk_.1.1.1 | exact hk_.1.1.1.2 | exact hk_.1.1.1.2.1 | exact hk_.1.1.1.2.2 | exact hk_.1.1.1.2.2.1 | exact hk_.1.1.1.2.2.2 | exact hk_.1.1.1.2.2.2.1 | exact hk_.1.1.1.2.2.2.2 | exact hk_.1.1.1.2.2.2.2.1 | exact hk_.1.1.1.1 | exact hk_.1.1.1.1.2 | exact hk_.1.1.1.1.2.1 | exact hk_.1.1.1.1.2.2 | exact hk_.1.1.1.1.2.2.1 | exact hk_.1.1.1.1.2.2.2 | exact hk_.1.1.1.1.2.2.2.1 | exact hk_.1.1.1.1.2.2.2.2 | exact hk_.1.1.1.1.2.2.2.2.1 | exact hk_.1.1.1.1.1 | exact hk_.1.1.1.1.1.2 | exact hk_.1.1.1.1.1.2.1 | exact hk_.1.1.1.1.1.2.2 | exact hk_.1.1.1.1.1.2.2.1 | exact hk_.1.1.1.1.1.2.2.2 | exact hk_.1.1.1.1.1.2.2.2.1 | exact hk_.1.1.1.1.1.2.2.2.2 | exact hk_.1.1.1.1.1.2.2.2.2.1)⟩)); have n2_ := Aside0.mk (blk_kept BK274.out hkp (fun hs_ => Or.elim hs_ (fun e_ => (Kd.R_ne HO269.out BK274.out (by decide)) e_) (fun e_ => by obtain ⟨_, _, _, q_, hq_, c_, hc_⟩ := e_; have e2_ := BK274.out.symm.trans hc_; injection e2_ with e2_; injection e2_ with _ e3_ _; subst e3_; revert hq_; decide))); have n3_ := Aside0.mk (Kd.R_mono (ok' := fun k_ => some k_ ≠ (.slice Ao23 t255.length co23 : Value).ownBlock ∧ some k_ ≠ (.slice Ao35 t262.length co35 : Value).ownBlock ∧ some k_ ≠ (.slice Ao38 t281.length co38 : Value).ownBlock) (Kd.R_keptB (R_tight2 rfl HO277.out) hkp (fun k_ hk_ hs_ => Or.elim hs_ (fun e_ => (by first | exact hk_ e_ | exact hk_.2 e_ | exact hk_.2.1 e_ | exact hk_.2.2 e_ | exact hk_.2.2.1 e_ | exact hk_.2.2.2 e_ | exact hk_.2.2.2.1 e_ | exact hk_.2.2.2.2 e_ | exact hk_.2.2.2.2.1 e_ | exact hk_.1 e_ | exact hk_.1.2 e_ | exact hk_.1.2.1 e_ | exact hk_.1.2.2 e_ | exact hk_.1.2.2.1 e_ | exact hk_.1.2.2.2 e_ | exact hk_.1.2.2.2.1 e_ | exact hk_.1.2.2.2.2 e_ | exact hk_.1.2.2.2.2.1 e_ | exact hk_.1.1 e_ | exact hk_.1.1.2 e_ | exact hk_.1.1.2.1 e_ | exact hk_.1.1.2.2 e_ | exact hk_.1.1.2.2.1 e_ | exact hk_.1.1.2.2.2 e_ | exact hk_.1.1.2.2.2.1 e_ | exact hk_.1.1.2.2.2.2 e_ | exact hk_.1.1.2.2.2.2.1 e_ | exact hk_.1.1.1 e_ | exact hk_.1.1.1.2 e_ | exact hk_.1.1.1.2.1 e_ | exact hk_.1.1.1.2.2 e_ | exact hk_.1.1.1.2.2.1 e_ | exact hk_.1.1.1.2.2.2 e_ | exact hk_.1.1.1.2.2.2.1 e_ | exact hk_.1.1.1.2.2.2.2 e_ | exact hk_.1.1.1.2.2.2.2.1 e_ | exact hk_.1.1.1.1 e_ | exact hk_.1.1.1.1.2 e_ | exact hk_.1.1.1.1.2.1 e_ | exact hk_.1.1.1.1.2.2 e_ | exact hk_.1.1.1.1.2.2.1 e_ | exact hk_.1.1.1.1.2.2.2 e_ | exact hk_.1.1.1.1.2.2.2.1 e_ | exact hk_.1.1.1.1.2.2.2.2 e_ | exact hk_.1.1.1.1.2.2.2.2.1 e_ | exact hk_.1.1.1.1.1 e_ | exact hk_.1.1.1.1.1.2 e_ | exact hk_.1.1.1.1.1.2.1 e_ | exact hk_.1.1.1.1.1.2.2 e_ | exact hk_.1.1.1.1.1.2.2.1 e_ | exact hk_.1.1.1.1.1.2.2.2 e_ | exact hk_.1.1.1.1.1.2.2.2.1 e_ | exact hk_.1.1.1.1.1.2.2.2.2 e_ | exact hk_.1.1.1.1.1.2.2.2.2.1 e_)) (fun e_ => (by first | exact e_.1 hk_.2 | exact e_.1.2 hk_.2 | exact e_.1.2.1 hk_.2 | exact e_.1.2.2 hk_.2 | exact e_.1.2.2.1 hk_.2 | exact e_.1.2.2.2 hk_.2 | exact e_.1.2.2.2.1 hk_.2 | exact e_.1.2.2.2.2 hk_.2 | exact e_.1.2.2.2.2.1 hk_.2 | exact e_.1.1 hk_.2 | exact e_.1.1.2 hk_.2 | exact e_.1.1.2.1 hk_.2 | exact e_.1.1.2.2 hk_.2 | exact e_.1.1.2.2.1 hk_.2 | exact e_.1.1.2.2.2 hk_.2 | exact e_.1.1.2.2.2.1 hk_.2 | exact e_.1.1.2.2.2.2 hk_.2 | exact e_.1.1.2.2.2.2.1 hk_.2 | exact e_.1.1.1 hk_.2 | exact e_.1.1.1.2 hk_.2 | exact e_.1.1.1.2.1 hk_.2 | exact e_.1.1.1.2.2 hk_.2 | exact e_.1.1.1.2.2.1 hk_.2 | exact e_.1.1.1.2.2.2 hk_.2 | exact e_.1.1.1.2.2.2.1 hk_.2 | exact e_.1.1.1.2.2.2.2 hk_.2 | exact e_.1.1.1.2.2.2.2.1 hk_.2 | exact e_.1.1.1.1 hk_.2 | exact e_.1.1.1.1.2 hk_.2 | exact e_.1.1.1.1.2.1 hk_.2 | exact e_.1.1.1.1.2.2 hk_.2 | exact e_.1.1.1.1.2.2.1 hk_.2 | exact e_.1.1.1.1.2.2.2 hk_.2 | exact e_.1.1.1.1.2.2.2.1 hk_.2 | exact e_.1.1.1.1.2.2.2.2 hk_.2 | exact e_.1.1.1.1.2.2.2.2.1 hk_.2 | exact e_.1.1.1.1.1 hk_.2 | exact e_.1.1.1.1.1.2 hk_.2 | exact e_.1.1.1.1.1.2.1 hk_.2 | exact e_.1.1.1.1.1.2.2 hk_.2 | exact e_.1.1.1.1.1.2.2.1 hk_.2 | exact e_.1.1.1.1.1.2.2.2 hk_.2 | exact e_.1.1.1.1.1.2.2.2.1 hk_.2 | exact e_.1.1.1.1.1.2.2.2.2 hk_.2 | exact e_.1.1.1.1.1.2.2.2.2.1 hk_.2 | exact e_.1.1.1.1.1.1 hk_.2 | exact e_.1.1.1.1.1.1.2 hk_.2 | exact e_.1.1.1.1.1.1.2.1 hk_.2 | exact e_.1.1.1.1.1.1.2.2 hk_.2 | exact e_.1.1.1.1.1.1.2.2.1 hk_.2 | exact e_.1.1.1.1.1.1.2.2.2 hk_.2 | exact e_.1.1.1.1.1.1.2.2.2.1 hk_.2 | exact e_.1.1.1.1.1.1.2.2.2.2 hk_.2 | exact e_.1.1.1.1.1.1.2.2.2.2.1 hk_.2)))) (fun k_ hk_ => ⟨(by first | exact hk_ | exact hk_.2 | exact hk_.2.1 | exact hk_.2.2 | exact hk_.2.2.1 | exact hk_.2.2.2 | exact hk_.2.2.2.1 | exact hk_.2.2.2.2 | exact hk_.2.2.2.2.1 | exact hk_.1 | exact hk_.1.2 | exact hk_.1.2.1 | exact hk_.1.2.2 | exact hk_.1.2.2.1 | exact hk_.1.2.2.2 | exact hk_.1.2.2.2.1 | exact hk_.1.2.2.2.2 | exact hk_.1.2.2.2.2.1 | exact hk_.1.1 | exact hk_.1.1.2 | exact hk_.1.1.2.1 | exact hk_.1.1.2.2 | exact hk_.1.1.2.2.1 | exact hk_.1.1.2.2.2 | exact hk_.1.1.2.2.2.1 | exact hk_.1.1.2.2.2.2 | exact hk_.1.1.2.2.2.2.1 | exact hk_.1.1.1 | exact hk_.1.1.1.2 | exact hk_.1.1.1.2.1 | exact hk_.1.1.1.2.2 | exact hk_.1.1.1.2.2.1 | exact hk_.1.1.1.2.2.2 | exact hk_.1.1.1.2.2.2.1 | exact hk_.1.1.1.2.2.2.2 | exact hk_.1.1.1.2.2.2.2.1 | exact hk_.1.1.1.1 | exact hk_.1.1.1.1.2 | exact hk_.1.1.1.1.2.1 | exact hk_.1.1.1.1.2.2 | exact hk_.1.1.1.1.2.2.1 | exact hk_.1.1.1.1.2.2.2 | exact hk_.1.1.1.1.2.2.2.1 | exact hk_.1.1.1.1.2.2.2.2 | exact hk_.1.1.1.1.2.2.2.2.1 | exact hk_.1.1.1.1.1 | exact hk_.1.1.1.1.1.2 | exact hk_.1.1.1.1.1.2.1 | exact hk_.1.1.1.1.1.2.2 | exact hk_.1.1.1.1.1.2.2.1 | exact hk_.1.1.1.1.1.2.2.2 | exact hk_.1.1.1.1.1.2.2.2.1 | exact hk_.1.1.1.1.1.2.2.2.2 | exact hk_.1.1.1.1.1.2.2.2.2.1), (by first | exact hk_ | exact hk_.2 | exact hk_.2.1 | exact hk_.2.2 | exact hk_.2.2.1 | exact hk_.2.2.2 | exact hk_.2.2.2.1 | exact hk_.2.2.2.2 | exact hk_.2.2.2.2.1 | exact hk_.1 | exact hk_.1.2 | exact hk_.1.2.1 | exact hk_.1.2.2 | exact hk_.1.2.2.1 | exact hk_.1.2.2.2 | exact hk_.1.2.2.2.1 | exact hk_.1.2.2.2.2 | exact hk_.1.2.2.2.2.1 | exact hk_.1.1 | exact hk_.1.1.2 | exact hk_.1.1.2.1 | exact hk_.1.1.2.2 | exact hk_.1.1.2.2.1 | exact hk_.1.1.2.2.2 | exact hk_.1.1.2.2.2.1 | exact hk_.1.1.2.2.2.2 | exact hk_.1.1.2.2.2.2.1 | exact hk_.1.1.1 | exact hk_.1.1.1.2 | exact hk_.1.1.1.2.1 | exact hk_.1.1.1.2.2 | exact hk_.1.1.1.2.2.1 | exact hk_.1.1.1.2.2.2 | exact hk_.1.1.1.2.2.2.1 | exact hk_.1.1.1.2.2.2.2 | exact hk_.1.1.1.2.2.2.2.1 | exact hk_.1.1.1.1 | exact hk_.1.1.1.1.2 | exact hk_.1.1.1.1.2.1 | exact hk_.1.1.1.1.2.2 | exact hk_.1.1.1.1.2.2.1 | exact hk_.1.1.1.1.2.2.2 | exact hk_.1.1.1.1.2.2.2.1 | exact hk_.1.1.1.1.2.2.2.2 | exact hk_.1.1.1.1.2.2.2.2.1 | exact hk_.1.1.1.1.1 | exact hk_.1.1.1.1.1.2 | exact hk_.1.1.1.1.1.2.1 | exact hk_.1.1.1.1.1.2.2 | exact hk_.1.1.1.1.1.2.2.1 | exact hk_.1.1.1.1.1.2.2.2 | exact hk_.1.1.1.1.1.2.2.2.1 | exact hk_.1.1.1.1.1.2.2.2.2 | exact hk_.1.1.1.1.1.2.2.2.2.1), (by first | exact hk_ | exact hk_.2 | exact hk_.2.1 | exact hk_.2.2 | exact hk_.2.2.1 | exact hk_.2.2.2 | exact hk_.2.2.2.1 | exact hk_.2.2.2.2 | exact hk_.2.2.2.2.1 | exact hk_.1 | exact hk_.1.2 | exact hk_.1.2.1 | exact hk_.1.2.2 | exact hk_.1.2.2.1 | exact hk_.1.2.2.2 | exact hk_.1.2.2.2.1 | exact hk_.1.2.2.2.2 | exact hk_.1.2.2.2.2.1 | exact hk_.1.1 | exact hk_.1.1.2 | exact hk_.1.1.2.1 | exact hk_.1.1.2.2 | exact hk_.1.1.2.2.1 | exact hk_.1.1.2.2.2 | exact hk_.1.1.2.2.2.1 | exact hk_.1.1.2.2.2.2 | exact hk_.1.1.2.2.2.2.1 | exact hk_.1.1.1 | exact hk_.1.1.1.2 | exact hk_.1.1.1.2.1 | exact hk_.1.1.1.2.2 | exact hk_.1.1.1.2.2.1 | exact hk_.1.1.1.2.2.2 | exact hk_.1.1.1.2.2.2.1 | exact hk_.1.1.1.2.2.2.2 | exact hk_.1.1.1.2.2.2.2.1 | exact hk_.1.1.1.1 | exact hk_.1.1.1.1.2 | exact hk_.1.1.1.1.2.1 | exact hk_.1.1.1.1.2.2 | exact hk_.1.1.1.1.2.2.1 | exact hk_.1.1.1.1.2.2.2 | exact hk_.1.1.1.1.2.2.2.1 | exact hk_.1.1.1.1.2.2.2.2 | exact hk_.1.1.1.1.2.2.2.2.1 | exact hk_.1.1.1.1.1 | exact hk_.1.1.1.1.1.2 | exact hk_.1.1.1.1.1.2.1 | exact hk_.1.1.1.1.1.2.2 | exact hk_.1.1.1.1.1.2.2.1 | exact hk_.1.1.1.1.1.2.2.2 | exact hk_.1.1.1.1.1.2.2.2.1 | exact hk_.1.1.1.1.1.2.2.2.2 | exact hk_.1.1.1.1.1.2.2.2.2.1)⟩)); have n4_ := Aside0.mk (hb); (try clear BK251); (try clear HO257); (try clear HO261); (try clear HO264); (try clear BK274); (try clear HO277); (try clear HO283); (try clear HO287); (try clear HB); (try clear HO269); (try clear HO273); have BK251 := n0_; have HO264 := n1_; have BK274 := n2_; have HO277 := n3_; have HB := n4_; clear n0_ n1_ n2_ n3_ n4_; (try clear hb); (try clear hkp)))
        (try simp only [Act.put, List.setIfInBounds_toArray, List.set_cons_zero, List.set_cons_succ])
        go_cut [42] (fun v42 wc => ∃ (kq : Nat) (x42_16 : Bool), v42 = .bool x42_16 ∧ Aside0 (laws_FnExactValueTypes.j0 kq t262 t275 x42_16 a0_0 a0_1 l0_2 a0_3 l0_4 = some r) ∧ Aside0 (kq ≤ k) ∧ Aside0 (Kd.R (Kd.int .i64) 2 wc w.heap.size (fun k_ => some k_ ≠ ((.slice Ao34 t275.length co34) : Value).ownBlock) (.slice Ao35 t262.length co35) t262) ∧ Aside0 (Kd.R (Kd.int .i64) 2 wc w.heap.size (fun k_ => some k_ ≠ ((.slice Ao35 t262.length co35) : Value).ownBlock) (.slice Ao34 t275.length co34) t275) ∧ Aside0 (wc.heap[gb251]? = some (.cells #[.string a0_0, .int .i64 a0_1, (.slice A0_2 l0_2.length c0_2), .int .i64 a0_3, (.slice A0_4 l0_4.length c0_4)] 25 (0, 0))) ∧ Aside0 (Below w.heap.size w wc))
        case first =>
          have H := HC17.out
          clear HC17
          by_cases c43 : t289 < 0
          · rw [if_pos c43] at H
            have c43b0 : decide (t289 < 0) = true := decide_eq_true c43
            clear c43
            (first | rw [c43b0] | (simp only [i64_w, i32_w]; rw [c43b0]) | skip)
            have H' := Aside0.mk H
            clear H
            go_wp2
            go_meet
            case rel => exact ⟨_, (true), (by first | rfl | (simp; done) | (simp [*]; done)), H', ⟨by first | omega | exact Nat.le_refl _⟩, ⟨by (with_reducible repeat (first | apply Kd.R_alloc | apply Kd.R_drewN | apply Kd.R_drew)); exact Kd.R_mono HO264.out (fun _ hk => hk.2.1)⟩, ⟨by (with_reducible repeat (first | apply Kd.R_alloc | apply Kd.R_drewN | apply Kd.R_drew)); exact Kd.R_mono HO277.out (fun _ hk => hk.2.1)⟩, ⟨by (with_reducible repeat (first | refine blk_drewN ?_ _ | refine blk_drew ?_ | refine blk_alloc ?_ _)); exact BK251.out⟩, ⟨by repeat (first | (with_reducible first | exact HB.out | apply below_alloc | apply pw_below_drewN | apply below_drew1 | refine below_set ?_ GE251.out | refine below_set ?_ GE274.out) | exact HB.out)⟩⟩
          · rw [if_neg c43] at H
            have c43b0 : decide (t289 < 0) = false := decide_eq_false c43
            clear c43
            (first | rw [c43b0] | (simp only [i64_w, i32_w]; rw [c43b0]) | skip)
            replace H := Option.bind_eq_some_iff.mp H
            obtain ⟨t290, A440, H⟩ := H
            replace H : (laws_FnExactValueTypes.j0 k t262 t275 (!t290) a0_0 a0_1 l0_2 a0_3 l0_4) = some r := H
            have A44 := Aside0.mk A440
            clear A440
            have H' := Aside0.mk H
            clear H
            go_wp2_with (first | (go_at_call 19; (with_reducible refine (laws_eqInt64S.calls k _ _ t275 _ _ t262 t290 _ ?side1 ?side2 ?side3 ?side4 A44.out).mono ?_); (case side1 => repeat (first | exact (Kd.R_reads' HO277.out).2.2 | (with_reducible refine Kd.C_alloc ?_ _) | (with_reducible refine Kd.C_drewN ?_ _) | (with_reducible refine Kd.C_drew ?_))); (case side2 => exact (Kd.R_reads' HO277.out).2.1); (case side3 => repeat (first | exact (Kd.R_reads' HO264.out).2.2 | (with_reducible refine Kd.C_alloc ?_ _) | (with_reducible refine Kd.C_drewN ?_ _) | (with_reducible refine Kd.C_drew ?_))); (case side4 => exact (Kd.R_reads' HO264.out).2.1); rintro e w' ⟨rfl, ⟨nd, rfl⟩⟩))
            go_meet
            case rel => exact ⟨_, (!t290), (by first | rfl | (simp; done) | (simp [*]; done)), H', ⟨by first | omega | exact Nat.le_refl _⟩, ⟨by (with_reducible repeat (first | apply Kd.R_alloc | apply Kd.R_drewN | apply Kd.R_drew)); exact Kd.R_mono HO264.out (fun _ hk => hk.2.1)⟩, ⟨by (with_reducible repeat (first | apply Kd.R_alloc | apply Kd.R_drewN | apply Kd.R_drew)); exact Kd.R_mono HO277.out (fun _ hk => hk.2.1)⟩, ⟨by (with_reducible repeat (first | refine blk_drewN ?_ _ | refine blk_drew ?_ | refine blk_alloc ?_ _)); exact BK251.out⟩, ⟨by repeat (first | (with_reducible first | exact HB.out | apply below_alloc | apply pw_below_drewN | apply below_drew1 | refine below_set ?_ GE251.out | refine below_set ?_ GE274.out) | exact HB.out)⟩⟩
        case rest =>
          clear HC17
          try clear c1
          try clear c2
          try clear p2
          try clear c3
          try clear c3b0
          try clear c4
          try clear c12
          try clear c15
          try clear c16
          try clear c17
          try clear c18
          try clear c19
          try clear c20
          try clear c21
          try clear c29
          try clear c43
          try clear c43b0
          try clear hcz19_0
          try clear hcz19_1
          try clear hcz19_2
          try clear hcz19_3
          try clear hcz19_4
          try clear hcz21_0
          try clear hcz21_1
          try clear hcz21_2
          try clear hcz21_3
          try clear hcz21_4
          try clear hcz26_0
          try clear hcz26_1
          try clear hcz26_2
          try clear hcz26_3
          try clear hcz26_4
          try clear hcz30_0
          try clear hcz30_1
          try clear hcz30_2
          try clear hcz30_3
          try clear hcz30_4
          try clear hcz41_0
          try clear hcz41_1
          try clear hcz41_2
          try clear hcz41_3
          try clear hcz41_4
          try clear hcz5_0
          try clear hcz5_1
          try clear hcz5_2
          try clear hcz5_3
          try clear hcz5_4
          try clear hfz19_0
          try clear hfz19_1
          try clear hfz19_2
          try clear hfz19_3
          try clear hfz19_4
          try clear hfz21_0
          try clear hfz21_1
          try clear hfz21_2
          try clear hfz21_3
          try clear hfz21_4
          try clear hfz26_0
          try clear hfz26_1
          try clear hfz26_2
          try clear hfz26_3
          try clear hfz26_4
          try clear hfz30_0
          try clear hfz30_1
          try clear hfz30_2
          try clear hfz30_3
          try clear hfz30_4
          try clear hfz41_0
          try clear hfz41_1
          try clear hfz41_2
          try clear hfz41_3
          try clear hfz41_4
          try clear hfz5_0
          try clear hfz5_1
          try clear hfz5_2
          try clear hfz5_3
          try clear hfz5_4
          obtain ⟨kq, x42_16, rfl, HA, HJ16, HO_4, HO_6, BK251, HB⟩ := hcut
          cases kq with
          | zero => exact absurd HA.out (by simp [laws_FnExactValueTypes.j0])
          | succ kj16 =>
            have H := HA.out
            clear HA
            simp only [laws_FnExactValueTypes.j0] at H
            by_cases c45 : x42_16 = true
            · subst c45
              have H1 : (some false) = some r := by rw [if_pos rfl] at H; exact H
              clear H
              have H := H1
              clear H1
              obtain rfl := Option.some.inj H
              exact absurd hlaw.out (by simp)
            · replace c45 := Bool.eq_false_iff.mpr c45
              subst c45
              have H1 : ((laws_markInt64S.f kj16 t275 1).bind fun bt291 => ((laws_heldInt64S.f kj16 bt291.2 1).bind fun t293 => (if t293 < 0 then (some false) else (if t293 = bt291.1 then ((laws_toFunc.f kj16 a0_0 a0_1 l0_2 a0_3 l0_4).bind fun bt294 => ((impl_ValueTypes.f kj16 bt294.1 bt294.2.1 bt294.2.2.1 bt294.2.2.2.1 bt294.2.2.2.2).bind fun t303 => ((laws_eqInt64S.f kj16 t303 t262).bind fun t306 => (if t306 = true then ((laws_heldInt64S.f kj16 bt291.2 1).bind fun t307 => (if t307 < 0 then (some false) else (if t307 = bt291.1 then (some true) else (some false)))) else (some false))))) else (some false))))) = some r := by rw [if_neg (show ¬ (false = true) by decide)] at H; exact H
              clear H
              have H := H1
              clear H1
              replace H := Option.bind_eq_some_iff.mp H
              obtain ⟨⟨t291, t292⟩, A460, H⟩ := H
              replace H : ((laws_heldInt64S.f kj16 t292 1).bind fun t293 => (if t293 < 0 then (some false) else (if t293 = t291 then ((laws_toFunc.f kj16 a0_0 a0_1 l0_2 a0_3 l0_4).bind fun bt294 => ((impl_ValueTypes.f kj16 bt294.1 bt294.2.1 bt294.2.2.1 bt294.2.2.2.1 bt294.2.2.2.2).bind fun t303 => ((laws_eqInt64S.f kj16 t303 t262).bind fun t306 => (if t306 = true then ((laws_heldInt64S.f kj16 t292 1).bind fun t307 => (if t307 < 0 then (some false) else (if t307 = t291 then (some true) else (some false)))) else (some false))))) else (some false)))) = some r := H
              have A46 := Aside0.mk A460
              clear A460
              replace H := Option.bind_eq_some_iff.mp H
              obtain ⟨t293, A470, H⟩ := H
              replace H : (if t293 < 0 then (some false) else (if t293 = t291 then ((laws_toFunc.f kj16 a0_0 a0_1 l0_2 a0_3 l0_4).bind fun bt294 => ((impl_ValueTypes.f kj16 bt294.1 bt294.2.1 bt294.2.2.1 bt294.2.2.2.1 bt294.2.2.2.2).bind fun t303 => ((laws_eqInt64S.f kj16 t303 t262).bind fun t306 => (if t306 = true then ((laws_heldInt64S.f kj16 t292 1).bind fun t307 => (if t307 < 0 then (some false) else (if t307 = t291 then (some true) else (some false)))) else (some false))))) else (some false))) = some r := H
              have A47 := Aside0.mk A470
              clear A470
              by_cases c48 : t293 < 0
              · rw [if_pos c48] at H
                have c48b0 : decide (t293 < 0) = true := decide_eq_true c48
                clear c48
                obtain rfl := Option.some.inj H
                exact absurd hlaw.out (by simp)
              · rw [if_neg c48] at H
                have c48b0 : decide (t293 < 0) = false := decide_eq_false c48
                clear c48
                by_cases c49 : t293 = t291
                · rw [if_pos c49] at H
                  have c49b0 : (t293 == t291) = true := beq_iff_eq.mpr c49
                  have c49b1 : (t293 != t291) = false := bne_eq_false_iff_eq.mpr c49
                  clear c49
                  replace H := Option.bind_eq_some_iff.mp H
                  obtain ⟨⟨t294, t295, t296, t299, t300⟩, A500, H⟩ := H
                  replace H : ((impl_ValueTypes.f kj16 t294 t295 t296 t299 t300).bind fun t303 => ((laws_eqInt64S.f kj16 t303 t262).bind fun t306 => (if t306 = true then ((laws_heldInt64S.f kj16 t292 1).bind fun t307 => (if t307 < 0 then (some false) else (if t307 = t291 then (some true) else (some false)))) else (some false)))) = some r := H
                  have A50 := Aside0.mk A500
                  clear A500
                  replace H := Option.bind_eq_some_iff.mp H
                  obtain ⟨t303, A510, H⟩ := H
                  replace H : ((laws_eqInt64S.f kj16 t303 t262).bind fun t306 => (if t306 = true then ((laws_heldInt64S.f kj16 t292 1).bind fun t307 => (if t307 < 0 then (some false) else (if t307 = t291 then (some true) else (some false)))) else (some false))) = some r := H
                  have A51 := Aside0.mk A510
                  clear A510
                  replace H := Option.bind_eq_some_iff.mp H
                  obtain ⟨t306, A520, H⟩ := H
                  replace H : (if t306 = true then ((laws_heldInt64S.f kj16 t292 1).bind fun t307 => (if t307 < 0 then (some false) else (if t307 = t291 then (some true) else (some false)))) else (some false)) = some r := H
                  have A52 := Aside0.mk A520
                  clear A520
                  by_cases c53 : t306 = true
                  · subst c53
                    have H1 : ((laws_heldInt64S.f kj16 t292 1).bind fun t307 => (if t307 < 0 then (some false) else (if t307 = t291 then (some true) else (some false)))) = some r := by rw [if_pos rfl] at H; exact H
                    clear H
                    have H := H1
                    clear H1
                    replace H := Option.bind_eq_some_iff.mp H
                    obtain ⟨t307, A540, H⟩ := H
                    replace H : (if t307 < 0 then (some false) else (if t307 = t291 then (some true) else (some false))) = some r := H
                    have A54 := Aside0.mk A540
                    clear A540
                    by_cases c55 : t307 < 0
                    · rw [if_pos c55] at H
                      have c55b0 : decide (t307 < 0) = true := decide_eq_true c55
                      clear c55
                      obtain rfl := Option.some.inj H
                      exact absurd hlaw.out (by simp)
                    · rw [if_neg c55] at H
                      have c55b0 : decide (t307 < 0) = false := decide_eq_false c55
                      clear c55
                      by_cases c56 : t307 = t291
                      · rw [if_pos c56] at H
                        have c56b0 : (t307 == t291) = true := beq_iff_eq.mpr c56
                        have c56b1 : (t307 != t291) = false := bne_eq_false_iff_eq.mpr c56
                        clear c56
                        obtain rfl := Option.some.inj H
                        go_wp2_with (first | ((with_reducible refine gate_callee (f := 22) rfl ?_); refine goesL_ (some 45) rfl rfl Try.func22 (by kernel_rfl) rfl #[.slice Ao34 t275.length co34, .int .i64 1] rfl (by (try simp only [List.map_toArray, List.map_cons, List.map_nil]); first | done | rfl | (simp only [List.length_drop, List.length_take]; rfl)) ?_; (with_reducible refine (laws_markInt64S.calls kj16 (fun k_ => some k_ = (.slice Ao34 t275.length co34 : Value).ownBlock) (.slice Ao34 t275.length co34) t275 1 t291 t292 w _ ?side1 ?side2 A46.out).mono ?_); (case side1 => repeat (first | (with_reducible first | exact HB.out | apply below_alloc | apply pw_below_drewN | apply below_drew1 | refine below_set ?_ GE251.out) | exact HB.out)); (case side2 => exact Kd.R_tight rfl HO_6.out); rintro e w57 ⟨rfl, hy0, hb, hkp⟩; refine ⟨_, rfl, ?_⟩; have n0_ := Aside0.mk (Kd.R_mono (ok' := fun k_ => some k_ ≠ (.slice Ao34 t275.length co34 : Value).ownBlock) (Kd.R_keptB (HO_4.out) hkp (fun k_ hk_ hs_ => (hk_) hs_)) (fun k_ hk_ => hk_.1)); have n1_ := Aside0.mk (Kd.R_reok rfl hy0 (fun k_ e_ => HO_6.out.1 k_ e_)); have n2_ := Aside0.mk (blk_kept (by (with_reducible repeat (first | refine blk_drewN ?_ _ | refine blk_drew ?_ | refine blk_alloc ?_ _)); exact BK251.out) hkp (fun hs_ => (fun e_ => (Kd.R_ne HO_6.out BK251.out (by decide)) e_) hs_)); have n3_ := Aside0.mk (hb); clear HO_4; clear HO_6; clear BK251; clear HB; have HO_4 := n0_; have HO_6 := n1_; have BK251 := n2_; have HB := n3_; clear n0_ n1_ n2_ n3_; (try clear hb); (try clear hkp); (try clear hy0)) | ((with_reducible refine gate_callee (f := 23) rfl ?_); refine goesL_ (some 48) rfl rfl Try.func23 (by kernel_rfl) rfl #[.slice Ao34 t292.length co34, .int .i64 1] rfl (by (try simp only [List.map_toArray, List.map_cons, List.map_nil]); first | done | (rw [show t292.length = t275.length from (Kd.R_reads' HO_6.out).1.symm] <;> rfl) | rfl | (simp only [List.length_drop, List.length_take]; rfl)) ?_; (with_reducible refine (laws_heldInt64S.calls kj16 _ _ t292 1 t293 _ ?side1 ?side2 A47.out).mono ?_); (case side1 => repeat (first | exact (Kd.R_reads' HO_6.out).2.2 | (with_reducible refine Kd.C_alloc ?_ _) | (with_reducible refine Kd.C_drewN ?_ _) | (with_reducible refine Kd.C_drew ?_))); (case side2 => rw [show t292.length = t275.length from (Kd.R_reads' HO_6.out).1.symm]; exact (Kd.R_reads' HO_6.out).2.1); rintro e w' ⟨rfl, ⟨nd, rfl⟩⟩; refine ⟨_, rfl, ?_⟩; have hcz58_0 : w57.cell? ⟨gb251, 0, none⟩ = some (.string a0_0) := (blk_cell BK251.out 0).trans rfl; have hcz58_1 : w57.cell? ⟨gb251, 1, none⟩ = some (.int .i64 a0_1) := (blk_cell BK251.out 1).trans rfl; have hcz58_2 : w57.cell? ⟨gb251, 2, none⟩ = some (.slice A0_2 l0_2.length c0_2) := (blk_cell BK251.out 2).trans rfl; have hcz58_3 : w57.cell? ⟨gb251, 3, none⟩ = some (.int .i64 a0_3) := (blk_cell BK251.out 3).trans rfl; have hcz58_4 : w57.cell? ⟨gb251, 4, none⟩ = some (.slice A0_4 l0_4.length c0_4) := (blk_cell BK251.out 4).trans rfl; have hfz58_0 := blk_frozen BK251.out 0; have hfz58_1 := blk_frozen BK251.out 1; have hfz58_2 := blk_frozen BK251.out 2; have hfz58_3 := blk_frozen BK251.out 3; have hfz58_4 := blk_frozen BK251.out 4) | ((with_reducible refine gate_callee (f := 17) rfl ?_); refine goesL_ (some 55) rfl rfl Try.func17 (by kernel_rfl) rfl #[.agg #[.string a0_0, .int .i64 a0_1, .slice A0_2 l0_2.length c0_2, .int .i64 a0_3, .slice A0_4 l0_4.length c0_4]] rfl (by (try simp only [List.map_toArray, List.map_cons, List.map_nil]); first | done | rfl | (simp only [List.length_drop, List.length_take]; rfl)) ?_; (with_reducible refine (laws_toFunc.calls kj16 a0_0 a0_1 _ _ l0_2 a0_3 _ _ l0_4 t294 t295 t296 t299 t300 _ ?side1 ?side2 ?side3 ?side4 A50.out).mono ?_); (case side1 => repeat (first | exact (Kd.C_below HR0_2.out (by repeat (first | (with_reducible first | exact HB.out | apply below_alloc | apply pw_below_drewN | apply below_drew1 | refine below_set ?_ GE251.out) | exact HB.out))) | (with_reducible refine Kd.C_alloc ?_ _) | (with_reducible refine Kd.C_drewN ?_ _) | (with_reducible refine Kd.C_drew ?_))); (case side2 => exact HC0_2.out); (case side3 => repeat (first | exact (Kd.C_below HR0_4.out (by repeat (first | (with_reducible first | exact HB.out | apply below_alloc | apply pw_below_drewN | apply below_drew1 | refine below_set ?_ GE251.out) | exact HB.out))) | (with_reducible refine Kd.C_alloc ?_ _) | (with_reducible refine Kd.C_drewN ?_ _) | (with_reducible refine Kd.C_drew ?_))); (case side4 => exact HC0_4.out); rintro e w59 ⟨v297, v301, rfl, ho0, ho1, hb⟩; refine ⟨_, rfl, ?_⟩; have n0_ := Aside0.mk (Kd.R_elder' (by (with_reducible repeat (first | apply Kd.R_alloc | apply Kd.R_drewN | apply Kd.R_drew)); exact HO_4.out) (Kd.R_base ho0) hb); have n1_ := Aside0.mk (Kd.R_elder' (by (with_reducible repeat (first | apply Kd.R_alloc | apply Kd.R_drewN | apply Kd.R_drew)); exact HO_6.out) (Kd.R_base ho0) hb); have n2_ := Aside0.mk (Kd.R_lower (Kd.R_new' (Kd.R_new' ho0 (Kd.R_lt (by (with_reducible repeat (first | apply Kd.R_alloc | apply Kd.R_drewN | apply Kd.R_drew)); exact HO_4.out))) (Kd.R_lt (by (with_reducible repeat (first | apply Kd.R_alloc | apply Kd.R_drewN | apply Kd.R_drew)); exact HO_6.out))) (below_size (by repeat (first | (with_reducible first | exact HB.out | apply below_alloc | apply pw_below_drewN | apply below_drew1 | refine below_set ?_ GE251.out) | exact HB.out)))); have n3_ := Aside0.mk (Kd.R_lower (Kd.R_new' (Kd.R_new' ho1 (Kd.R_lt (by (with_reducible repeat (first | apply Kd.R_alloc | apply Kd.R_drewN | apply Kd.R_drew)); exact HO_4.out))) (Kd.R_lt (by (with_reducible repeat (first | apply Kd.R_alloc | apply Kd.R_drewN | apply Kd.R_drew)); exact HO_6.out))) (below_size (by repeat (first | (with_reducible first | exact HB.out | apply below_alloc | apply pw_below_drewN | apply below_drew1 | refine below_set ?_ GE251.out) | exact HB.out)))); have n4_ := Aside0.mk (blk_below (g := gb251) (o := .cells #[.string a0_0, .int .i64 a0_1, .slice A0_2 l0_2.length c0_2, .int .i64 a0_3, .slice A0_4 l0_4.length c0_4] 25 (0, 0)) (by (with_reducible repeat (first | refine blk_drewN ?_ _ | refine blk_drew ?_ | refine blk_alloc ?_ _)); exact BK251.out) hb); have n5_ := Aside0.mk (below_step (by repeat (first | (with_reducible first | exact HB.out | apply below_alloc | apply pw_below_drewN | apply below_drew1 | refine below_set ?_ GE251.out) | exact HB.out)) hb); clear HO_4; clear HO_6; clear BK251; clear HB; have HO_4 := n0_; have HO_6 := n1_; have HO298 := n2_; have HO302 := n3_; have BK251 := n4_; have HB := n5_; clear n0_ n1_ n2_ n3_ n4_ n5_; (try clear hb); (try clear hb2); (try clear hk); (try clear hi); (try clear ho0); (try clear ho1); obtain ⟨Ao60, co60, eo60⟩ := Kd.R_slice HO298.out; subst eo60; obtain ⟨Ao61, co61, eo61⟩ := Kd.R_slice HO302.out; subst eo61) | ((with_reducible refine gate_callee (f := 18) rfl ?_); refine goesL_ (some 56) rfl rfl Try.func18 (by kernel_rfl) rfl #[.agg #[.string t294, .int .i64 t295, .slice Ao60 t296.length co60, .int .i64 t299, .slice Ao61 t300.length co61]] rfl (by (try simp only [List.map_toArray, List.map_cons, List.map_nil]); first | done | rfl | (simp only [List.length_drop, List.length_take]; rfl)) ?_; (with_reducible refine (impl_ValueTypes.calls kj16 t294 t295 _ _ t296 t299 _ _ t300 t303 _ ?side1 ?side2 ?side3 ?side4 A51.out).mono ?_); (case side1 => repeat (first | exact (Kd.R_reads' HO298.out).2.2 | (with_reducible refine Kd.C_alloc ?_ _) | (with_reducible refine Kd.C_drewN ?_ _) | (with_reducible refine Kd.C_drew ?_))); (case side2 => exact (Kd.R_reads' HO298.out).2.1); (case side3 => repeat (first | exact (Kd.R_reads' HO302.out).2.2 | (with_reducible refine Kd.C_alloc ?_ _) | (with_reducible refine Kd.C_drewN ?_ _) | (with_reducible refine Kd.C_drew ?_))); (case side4 => exact (Kd.R_reads' HO302.out).2.1); rintro e w62 ⟨v304, rfl, ho0, hb⟩; refine ⟨_, rfl, ?_⟩; have n0_ := Aside0.mk (Kd.R_elder' (by (with_reducible repeat (first | apply Kd.R_alloc | apply Kd.R_drewN | apply Kd.R_drew)); exact HO_4.out) (Kd.R_base ho0) hb); have n1_ := Aside0.mk (Kd.R_elder' (by (with_reducible repeat (first | apply Kd.R_alloc | apply Kd.R_drewN | apply Kd.R_drew)); exact HO_6.out) (Kd.R_base ho0) hb); have n2_ := Aside0.mk (Kd.R_elder' (by (with_reducible repeat (first | apply Kd.R_alloc | apply Kd.R_drewN | apply Kd.R_drew)); exact HO298.out) (Kd.R_base ho0) hb); have n3_ := Aside0.mk (Kd.R_elder' (by (with_reducible repeat (first | apply Kd.R_alloc | apply Kd.R_drewN | apply Kd.R_drew)); exact HO302.out) (Kd.R_base ho0) hb); have n4_ := Aside0.mk (Kd.R_lower (Kd.R_new' (Kd.R_new' (Kd.R_new' ho0 (Kd.R_lt (by (with_reducible repeat (first | apply Kd.R_alloc | apply Kd.R_drewN | apply Kd.R_drew)); exact HO_4.out))) (Kd.R_lt (by (with_reducible repeat (first | apply Kd.R_alloc | apply Kd.R_drewN | apply Kd.R_drew)); exact HO_6.out))) (Kd.R_lt (by (with_reducible repeat (first | apply Kd.R_alloc | apply Kd.R_drewN | apply Kd.R_drew)); exact HO298.out))) (below_size (by repeat (first | (with_reducible first | exact HB.out | apply below_alloc | apply pw_below_drewN | apply below_drew1 | refine below_set ?_ GE251.out) | exact HB.out)))); have n5_ := Aside0.mk (blk_below (g := gb251) (o := .cells #[.string a0_0, .int .i64 a0_1, .slice A0_2 l0_2.length c0_2, .int .i64 a0_3, .slice A0_4 l0_4.length c0_4] 25 (0, 0)) (by (with_reducible repeat (first | refine blk_drewN ?_ _ | refine blk_drew ?_ | refine blk_alloc ?_ _)); exact BK251.out) hb); have n6_ := Aside0.mk (below_step (by repeat (first | (with_reducible first | exact HB.out | apply below_alloc | apply pw_below_drewN | apply below_drew1 | refine below_set ?_ GE251.out) | exact HB.out)) hb); clear HO_4; clear HO_6; clear HO298; clear HO302; clear BK251; clear HB; have HO_4 := n0_; have HO_6 := n1_; have HO298 := n2_; have HO302 := n3_; have HO305 := n4_; have BK251 := n5_; have HB := n6_; clear n0_ n1_ n2_ n3_ n4_ n5_ n6_; (try clear hb); (try clear hb2); (try clear hk); (try clear hi); (try clear ho0); obtain ⟨Ao63, co63, eo63⟩ := Kd.R_slice HO305.out; subst eo63) | ((with_reducible refine gate_callee (f := 19) rfl ?_); refine goesL_ (some 59) rfl rfl Try.func19 (by kernel_rfl) rfl #[.slice Ao63 t303.length co63, .slice Ao35 t262.length co35] rfl (by (try simp only [List.map_toArray, List.map_cons, List.map_nil]); first | done | rfl | (simp only [List.length_drop, List.length_take]; rfl)) ?_; (with_reducible refine (laws_eqInt64S.calls kj16 _ _ t303 _ _ t262 true _ ?side1 ?side2 ?side3 ?side4 A52.out).mono ?_); (case side1 => repeat (first | exact (Kd.R_reads' HO305.out).2.2 | (with_reducible refine Kd.C_alloc ?_ _) | (with_reducible refine Kd.C_drewN ?_ _) | (with_reducible refine Kd.C_drew ?_))); (case side2 => exact (Kd.R_reads' HO305.out).2.1); (case side3 => repeat (first | exact (Kd.R_reads' HO_4.out).2.2 | (with_reducible refine Kd.C_alloc ?_ _) | (with_reducible refine Kd.C_drewN ?_ _) | (with_reducible refine Kd.C_drew ?_))); (case side4 => exact (Kd.R_reads' HO_4.out).2.1); rintro e w' ⟨rfl, ⟨nd, rfl⟩⟩; refine ⟨_, rfl, ?_⟩) | ((with_reducible refine gate_callee (f := 23) rfl ?_); refine goesL_ (some 63) rfl rfl Try.func23 (by kernel_rfl) rfl #[.slice Ao34 t292.length co34, .int .i64 1] rfl (by (try simp only [List.map_toArray, List.map_cons, List.map_nil]); first | done | (rw [show t292.length = t275.length from (Kd.R_reads' HO_6.out).1.symm] <;> rfl) | rfl | (simp only [List.length_drop, List.length_take]; rfl)) ?_; (with_reducible refine (laws_heldInt64S.calls kj16 _ _ t292 1 t307 _ ?side1 ?side2 A54.out).mono ?_); (case side1 => repeat (first | exact (Kd.R_reads' HO_6.out).2.2 | (with_reducible refine Kd.C_alloc ?_ _) | (with_reducible refine Kd.C_drewN ?_ _) | (with_reducible refine Kd.C_drew ?_))); (case side2 => rw [show t292.length = t275.length from (Kd.R_reads' HO_6.out).1.symm]; exact (Kd.R_reads' HO_6.out).2.1); rintro e w' ⟨rfl, ⟨nd, rfl⟩⟩; refine ⟨_, rfl, ?_⟩))
                        go_ret
                        exact ⟨by first | rfl | (simp [errW_none, errW_some] <;> rfl) | (simp [*, errW_none, errW_some] <;> rfl), by repeat (first | (with_reducible first | exact HB.out | apply below_alloc | apply pw_below_drewN | apply below_drew1 | refine below_set ?_ GE251.out) | exact HB.out)⟩
                      · rw [if_neg c56] at H
                        have c56b0 : (t307 == t291) = false := beq_eq_false_iff_ne.mpr c56
                        have c56b1 : (t307 != t291) = true := bne_iff_ne.mpr c56
                        obtain rfl := Option.some.inj H
                        exact absurd hlaw.out (by simp)
                  · replace c53 := Bool.eq_false_iff.mpr c53
                    subst c53
                    have H1 : (some false) = some r := by rw [if_neg (show ¬ (false = true) by decide)] at H; exact H
                    clear H
                    have H := H1
                    clear H1
                    obtain rfl := Option.some.inj H
                    exact absurd hlaw.out (by simp)
                · rw [if_neg c49] at H
                  have c49b0 : (t293 == t291) = false := beq_eq_false_iff_ne.mpr c49
                  have c49b1 : (t293 != t291) = true := bne_iff_ne.mpr c49
                  obtain rfl := Option.some.inj H
                  exact absurd hlaw.out (by simp)
      · replace c15 := Bool.eq_false_iff.mpr c15
        subst c15
        have H1 : (some false) = some r := by rw [if_neg (show ¬ (false = true) by decide)] at H; exact H
        clear H
        have H := H1
        clear H1
        obtain rfl := Option.some.inj H
        exact absurd hlaw.out (by simp)
    · replace c12 := Bool.eq_false_iff.mpr c12
      subst c12
      have H1 : (some false) = some r := by rw [if_neg (show ¬ (false = true) by decide)] at H; exact H
      clear H
      have H := H1
      clear H1
      obtain rfl := Option.some.inj H
      exact absurd hlaw.out (by simp)

end Go.Proofs.Ythfhenhlfedfmaa.QFnExactValueTypes
