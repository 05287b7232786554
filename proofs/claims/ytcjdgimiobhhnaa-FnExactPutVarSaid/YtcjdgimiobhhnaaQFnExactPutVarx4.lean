-- written by mp.py, a program of this session, over the translation; Lean checks it
import Derived.Test.YtcjdgimiobhhnaaQFnExactPutVarx0
import Derived.Test.YtcjdgimiobhhnaaQFnExactPutVarx2
import Derived.Test.YtcjdgimiobhhnaaQFnExactPutVarx3
namespace Go.Proofs.Ytcjdgimiobhhnaa.QFnExactPutVar
open Go.RowKit Go.Proofs.YtcjdgimiobhhnaaW.PrintWords Go.Proofs.YtcjdgimiobhhnaaW.PrintLast Go.Proofs.YtcjdgimiobhhnaaW.PrintMore
attribute [local go_sem] max2_int min2_int max_two min_two max_three min_three max_four min_four   -- for this text's walks alone
set_option linter.unusedVariables false
set_option linter.unusedSimpArgs false

/-! ### spec_PutVar: function 26 -/
def spec_PutVar.f (k : Nat) (l0_0 : List Int) (a0_1 : Int) (a1 : Int) (a2 : Int) : Option (List Int × Int) := (spec_l6Start.f k l0_0 a0_1).bind fun bt168 => (if a2 < 2 then (some (bt168.1, bt168.2)) else (if a2 > 32 then (some (bt168.1, bt168.2)) else ((spec_l6PutVar.f k bt168.1 bt168.2 a1 a2).bind fun bt173 => (some (bt173.1, bt173.2)))))
theorem spec_PutVar.mono : ∀ a0 a1 a2 a3 k, LeO (spec_PutVar.f k a0 a1 a2 a3) (spec_PutVar.f (k + 1) a0 a1 a2 a3) := by
  intro a0 a1 a2 a3 k
  unfold spec_PutVar.f
  repeat' first
      | (with_reducible exact spec_l6PutVar.mono _ _ _ _ _)
      | (with_reducible exact spec_l6Start.mono _ _ _)
      | (with_reducible exact LeO.refl _)
      | (with_reducible exact LeO.none _)
      | (with_reducible refine LeO.ite ?_ ?_)
      | (with_reducible refine LeO.bind ?_ (fun _ => ?_))
      | exact spec_l6PutVar.mono _ _ _ _ _
      | exact spec_l6Start.mono _ _ _
      | exact LeO.none _
      | refine LeO.ite ?_ ?_
      | refine LeO.bind ?_ (fun _ => ?_)
set_option maxHeartbeats 8000000 in
set_option maxRecDepth 100000 in
theorem spec_PutVar.calls (k : Nat) (A0_0 : Option Addr) (c0_0 : Nat) (l0_0 : List Int) (a0_1 : Int) (a1 : Int) (a2 : Int) (r1 : List Int) (r2 : Int) (w : World) (hr0_0 : Kd.C (Kd.int .u8) w A0_0 l0_0.length l0_0) (hc0_0 : l0_0.length ≤ c0_0) (h : spec_PutVar.f k l0_0 a0_1 a1 a2 = some (r1, r2)) :
    Calls Try.prog 26 #[.agg #[.slice A0_0 l0_0.length c0_0, .int .i64 a0_1], .int .u64 a1, .int .i64 a2] w fun e w' => ∃ v0_ : Value, e = .returned (.agg #[v0_, .int .i64 r2]) ∧ Kd.R (Kd.int .u8) 5 w' w.heap.size (fun _ => True) v0_ r1 ∧ Below w.heap.size w w' := by
  have hu27 := Try.underlying27
  have HR0_0 := Aside0.mk hr0_0
  have HC0_0 := Aside0.mk hc0_0
  clear hr0_0 hc0_0
  have HB := Aside0.mk (Below.refl w.heap.size w)
  have H : ((spec_l6Start.f k l0_0 a0_1).bind fun bt168 => (if a2 < 2 then (some (bt168.1, bt168.2)) else (if a2 > 32 then (some (bt168.1, bt168.2)) else ((spec_l6PutVar.f k bt168.1 bt168.2 a1 a2).bind fun bt173 => (some (bt173.1, bt173.2)))))) = some (r1, r2) := h
  clear h
  replace H := Option.bind_eq_some_iff.mp H
  obtain ⟨⟨t168, t171⟩, A40, H⟩ := H
  replace H : (if a2 < 2 then (some (t168, t171)) else (if a2 > 32 then (some (t168, t171)) else ((spec_l6PutVar.f k t168 t171 a1 a2).bind fun bt173 => (some (bt173.1, bt173.2))))) = some (r1, r2) := H
  have A4 := Aside0.mk A40
  clear A40
  by_cases c5 : a2 < 2
  · rw [if_pos c5] at H
    have c5b0 : decide (a2 < 2) = true := decide_eq_true c5
    clear c5
    simp only [Option.some.injEq, Prod.mk.injEq] at H
    obtain ⟨rfl, rfl⟩ := H
    go_enter Try.func26, Try.ntmps26
    go_wp2_with (first | ((with_reducible refine gate_dst (N := 3) rfl ?_); refine box_event ?hg (N := 3) ?hd (cs := #[.slice A0_0 l0_0.length c0_0, .int .i64 a0_1]) (t := 27) ?hr ?_; (case hd => rfl); (case hg => rfl); (case hr => first | (go_simp; done) | (go_simp; rfl)); intro gb166 hg w6 hbox hb; have n0_ := Aside0.mk (below_step (by repeat (first | (with_reducible first | exact HB.out | apply below_alloc | apply pw_below_drewN | apply below_drew1) | exact HB.out)) hb); have n1_ := Aside0.mk (hbox); have n2_ := Aside0.mk ((by rw [hg]; exact (below_size (by repeat (first | (with_reducible first | exact HB.out | apply below_alloc | apply pw_below_drewN | apply below_drew1) | exact HB.out))) : w.heap.size ≤ gb166)); have n3_ := Aside0.mk ((by rw [hg]; exact (below_size (by repeat (first | (with_reducible first | exact HB.out | apply below_alloc | apply pw_below_drewN | apply below_drew1) | exact HB.out))) : w.heap.size ≤ gb166)); clear HB; have HB := n0_; have BK166 := n1_; have GW166 := n2_; have GE166 := n3_; clear n0_ n1_ n2_ n3_; clear hb hbox hg) | ((with_reducible refine gate_dst (N := 6) rfl ?_); refine box_event ?hg (N := 6) ?hd (cs := #[.slice none 0 0, .int .i64 0]) (t := 27) ?hr ?_; (case hd => rfl); (case hg => rfl); (case hr => first | (go_simp; done) | (go_simp; rfl)); intro gb167 hg w7 hbox hb; have n0_ := Aside0.mk (blk_below (g := gb166) (o := .cells #[.slice A0_0 l0_0.length c0_0, .int .i64 a0_1] 27 (0, 0)) (by (with_reducible repeat (first | refine blk_drewN ?_ _ | refine blk_drew ?_ | refine blk_alloc ?_ _)); exact BK166.out) hb); have n1_ := Aside0.mk (below_step (by repeat (first | (with_reducible first | exact HB.out | apply below_alloc | apply pw_below_drewN | apply below_drew1 | refine below_set ?_ GE166.out) | exact HB.out)) hb); have n2_ := Aside0.mk (hbox); have n3_ := Aside0.mk ((by rw [hg]; exact (below_size (by repeat (first | (with_reducible first | exact HB.out | apply below_alloc | apply pw_below_drewN | apply below_drew1 | refine below_set ?_ GE166.out) | exact HB.out))) : w.heap.size ≤ gb167)); have n4_ := Aside0.mk ((by rw [hg]; exact (below_size (by repeat (first | (with_reducible first | exact HB.out | apply below_alloc | apply pw_below_drewN | apply below_drew1 | refine below_set ?_ GE166.out) | exact HB.out))) : w.heap.size ≤ gb167)); have n5_ := Aside0.mk ((by rw [hg]; exact Nat.ne_of_lt (blk_lt (g := gb166) (o := .cells #[.slice A0_0 l0_0.length c0_0, .int .i64 a0_1] 27 (0, 0)) (by (with_reducible repeat (first | refine blk_drewN ?_ _ | refine blk_drew ?_ | refine blk_alloc ?_ _)); exact BK166.out)) : gb166 ≠ gb167)); have n6_ := Aside0.mk ((by rw [hg]; exact Nat.ne_of_gt (blk_lt (g := gb166) (o := .cells #[.slice A0_0 l0_0.length c0_0, .int .i64 a0_1] 27 (0, 0)) (by (with_reducible repeat (first | refine blk_drewN ?_ _ | refine blk_drew ?_ | refine blk_alloc ?_ _)); exact BK166.out)) : gb167 ≠ gb166)); clear BK166; clear HB; have BK166 := n0_; have HB := n1_; have BK167 := n2_; have GW167 := n3_; have GE167 := n4_; have NB166_167 := n5_; have NB167_166 := n6_; clear n0_ n1_ n2_ n3_ n4_ n5_ n6_; clear hb hbox hg; have hnb8 := NB166_167.out; have hnc8 := NB167_166.out; have hcz9_0 : w7.cell? ⟨gb166, 0, none⟩ = some (.slice A0_0 l0_0.length c0_0) := (blk_cell BK166.out 0).trans rfl; have hcz9_1 : w7.cell? ⟨gb166, 1, none⟩ = some (.int .i64 a0_1) := (blk_cell BK166.out 1).trans rfl; have hfz9_0 := blk_frozen BK166.out 0; have hfz9_1 := blk_frozen BK166.out 1) | ((with_reducible refine gate_callee (f := 43) rfl ?_); refine goesL_ (some 9) rfl rfl Try.func43 (by kernel_rfl) rfl #[.agg #[.slice A0_0 l0_0.length c0_0, .int .i64 a0_1]] rfl (by (try simp only [List.map_toArray, List.map_cons, List.map_nil]); first | done | rfl | (simp only [List.length_drop, List.length_take]; rfl)) ?_; (with_reducible refine (spec_l6Start.calls k _ _ l0_0 a0_1 t168 t171 _ ?side1 ?side2 A4.out).mono ?_); (case side1 => repeat (first | exact (Kd.C_below HR0_0.out HB.out) | (with_reducible refine Kd.C_alloc ?_ _) | (with_reducible refine Kd.C_drewN ?_ _) | (with_reducible refine Kd.C_drew ?_))); (case side2 => exact HC0_0.out); rintro e w10 ⟨v169, rfl, ho0, hb⟩; refine ⟨_, rfl, ?_⟩; have n0_ := Aside0.mk (Kd.R_lower ho0 (below_size (by repeat (first | (with_reducible first | exact HB.out | apply below_alloc | apply pw_below_drewN | apply below_drew1 | refine below_set ?_ GE166.out | refine below_set ?_ GE167.out) | exact HB.out)))); have n1_ := Aside0.mk (blk_below (g := gb166) (o := .cells #[.slice A0_0 l0_0.length c0_0, .int .i64 a0_1] 27 (0, 0)) (by (with_reducible repeat (first | refine blk_drewN ?_ _ | refine blk_drew ?_ | refine blk_alloc ?_ _)); exact BK166.out) hb); have n2_ := Aside0.mk (blk_below (g := gb167) (o := .cells #[.slice none 0 0, .int .i64 0] 27 (0, 0)) (by (with_reducible repeat (first | refine blk_drewN ?_ _ | refine blk_drew ?_ | refine blk_alloc ?_ _)); exact BK167.out) hb); have n3_ := Aside0.mk (below_step (by repeat (first | (with_reducible first | exact HB.out | apply below_alloc | apply pw_below_drewN | apply below_drew1 | refine below_set ?_ GE166.out | refine below_set ?_ GE167.out) | exact HB.out)) hb); clear BK166; clear BK167; clear HB; have HO170 := n0_; have BK166 := n1_; have BK167 := n2_; have HB := n3_; clear n0_ n1_ n2_ n3_; (try clear hb); (try clear hb2); (try clear hk); (try clear hi); (try clear ho0)) | ((with_reducible refine gate_dst (N := 7) rfl ?_); refine box_event ?hg (N := 7) ?hd (cs := #[.slice none 0 0, .int .i64 0]) (t := 27) ?hr ?_; (case hd => rfl); (case hg => rfl); (case hr => first | (go_simp; done) | (go_simp; rfl)); intro gb172 hg w11 hbox hb; have n0_ := Aside0.mk (Kd.R_below (by (with_reducible repeat (first | apply Kd.R_alloc | apply Kd.R_drewN | apply Kd.R_drew)); exact HO170.out) hb); have n1_ := Aside0.mk (blk_below (g := gb166) (o := .cells #[.slice A0_0 l0_0.length c0_0, .int .i64 a0_1] 27 (0, 0)) (by (with_reducible repeat (first | refine blk_drewN ?_ _ | refine blk_drew ?_ | refine blk_alloc ?_ _)); exact BK166.out) hb); have n2_ := Aside0.mk (blk_below (g := gb167) (o := .cells #[.slice none 0 0, .int .i64 0] 27 (0, 0)) (by (with_reducible repeat (first | refine blk_drewN ?_ _ | refine blk_drew ?_ | refine blk_alloc ?_ _)); exact BK167.out) hb); have n3_ := Aside0.mk (below_step (by repeat (first | (with_reducible first | exact HB.out | apply below_alloc | apply pw_below_drewN | apply below_drew1 | refine below_set ?_ GE166.out | refine below_set ?_ GE167.out) | exact HB.out)) hb); have n4_ := Aside0.mk (hbox); have n5_ := Aside0.mk ((by rw [hg]; exact (below_size (by repeat (first | (with_reducible first | exact HB.out | apply below_alloc | apply pw_below_drewN | apply below_drew1 | refine below_set ?_ GE166.out | refine below_set ?_ GE167.out) | exact HB.out))) : w.heap.size ≤ gb172)); have n6_ := Aside0.mk ((by rw [hg]; exact (below_size (by repeat (first | (with_reducible first | exact HB.out | apply below_alloc | apply pw_below_drewN | apply below_drew1 | refine below_set ?_ GE166.out | refine below_set ?_ GE167.out) | exact HB.out))) : w.heap.size ≤ gb172)); have n7_ := Aside0.mk ((by rw [hg]; exact Nat.ne_of_lt (blk_lt (g := gb166) (o := .cells #[.slice A0_0 l0_0.length c0_0, .int .i64 a0_1] 27 (0, 0)) (by (with_reducible repeat (first | refine blk_drewN ?_ _ | refine blk_drew ?_ | refine blk_alloc ?_ _)); exact BK166.out)) : gb166 ≠ gb172)); have n8_ := Aside0.mk ((by rw [hg]; exact Nat.ne_of_gt (blk_lt (g := gb166) (o := .cells #[.slice A0_0 l0_0.length c0_0, .int .i64 a0_1] 27 (0, 0)) (by (with_reducible repeat (first | refine blk_drewN ?_ _ | refine blk_drew ?_ | refine blk_alloc ?_ _)); exact BK166.out)) : gb172 ≠ gb166)); have n9_ := Aside0.mk ((by rw [hg]; exact Nat.ne_of_lt (blk_lt (g := gb167) (o := .cells #[.slice none 0 0, .int .i64 0] 27 (0, 0)) (by (with_reducible repeat (first | refine blk_drewN ?_ _ | refine blk_drew ?_ | refine blk_alloc ?_ _)); exact BK167.out)) : gb167 ≠ gb172)); have n10_ := Aside0.mk ((by rw [hg]; exact Nat.ne_of_gt (blk_lt (g := gb167) (o := .cells #[.slice none 0 0, .int .i64 0] 27 (0, 0)) (by (with_reducible repeat (first | refine blk_drewN ?_ _ | refine blk_drew ?_ | refine blk_alloc ?_ _)); exact BK167.out)) : gb172 ≠ gb167)); clear HO170; clear BK166; clear BK167; clear HB; have HO170 := n0_; have BK166 := n1_; have BK167 := n2_; have HB := n3_; have BK172 := n4_; have GW172 := n5_; have GE172 := n6_; have NB166_172 := n7_; have NB172_166 := n8_; have NB167_172 := n9_; have NB172_167 := n10_; clear n0_ n1_ n2_ n3_ n4_ n5_ n6_ n7_ n8_ n9_ n10_; clear hb hbox hg; obtain ⟨Ao12, co12, eo12⟩ := Kd.R_slice HO170.out; subst eo12; have hnb13 := NB172_166.out; have hnc13 := NB166_172.out; have hnb14 := NB172_167.out; have hnc14 := NB167_172.out; have hcz15_0 : w11.cell? ⟨gb172, 0, none⟩ = some (.slice none 0 0) := (blk_cell BK172.out 0).trans rfl; have hcz15_1 : w11.cell? ⟨gb172, 1, none⟩ = some (.int .i64 0) := (blk_cell BK172.out 1).trans rfl; have hfz15_0 := blk_frozen BK172.out 0; have hfz15_1 := blk_frozen BK172.out 1; have hcz16_0 : w11.cell? ⟨gb167, 0, none⟩ = some (.slice none 0 0) := (blk_cell BK167.out 0).trans rfl; have hcz16_1 : w11.cell? ⟨gb167, 1, none⟩ = some (.int .i64 0) := (blk_cell BK167.out 1).trans rfl; have hfz16_0 := blk_frozen BK167.out 0; have hfz16_1 := blk_frozen BK167.out 1))
    refine bodyPost_ret (results_cell_row rfl _ _ gb167 27 #[.slice Ao12 t168.length co12, .int .i64 t171] (0, 0) _ rfl (by (with_reducible repeat (first | refine blk_drewN ?_ _ | refine blk_drew ?_ | refine blk_alloc ?_ _)); refine blk_put (cs := #[.slice Ao12 t168.length co12, .int .i64 0]) ?_ 1 _ rfl; (with_reducible repeat (first | refine blk_drewN ?_ _ | refine blk_drew ?_ | refine blk_alloc ?_ _)); refine blk_put (cs := #[.slice none 0 0, .int .i64 0]) ?_ 0 _ rfl; (with_reducible repeat (first | refine blk_drewN ?_ _ | refine blk_drew ?_ | refine blk_alloc ?_ _)); refine blk_far ?_ NB167_172.out _; (with_reducible repeat (first | refine blk_drewN ?_ _ | refine blk_drew ?_ | refine blk_alloc ?_ _)); refine blk_far ?_ NB167_172.out _; (with_reducible repeat (first | refine blk_drewN ?_ _ | refine blk_drew ?_ | refine blk_alloc ?_ _)); exact BK167.out) Try.underlying27 rfl (by kernel_rfl)) rfl ?_
    exact ⟨_, by first | rfl | (simp [errW_none, errW_some] <;> rfl) | (simp [*, errW_none, errW_some] <;> rfl), by (with_reducible repeat (first | apply Kd.R_alloc | apply Kd.R_drewN | apply Kd.R_drew)); exact Kd.R_mono (Kd.R_far (p := ⟨gb167, 1, none⟩) (Kd.R_far (p := ⟨gb167, 0, none⟩) (Kd.R_far (p := ⟨gb172, 1, none⟩) (Kd.R_far (p := ⟨gb172, 0, none⟩) (Kd.R_types (Kd.R_types HO170.out BK172.out (by decide)) BK167.out (by decide)) (fun _ hk => hk.1.2) (.slice Ao12 t168.length co12)) (fun _ hk => hk.1.2) (.int .i64 t171)) (fun _ hk => hk.2) (.slice Ao12 t168.length co12)) (fun _ hk => hk.2) (.int .i64 t171)) (fun _ hk => trivial), by repeat (first | (with_reducible first | exact HB.out | apply below_alloc | apply pw_below_drewN | apply below_drew1 | refine below_set ?_ GE166.out | refine below_set ?_ GE167.out | refine below_set ?_ GE172.out) | exact HB.out)⟩
  · rw [if_neg c5] at H
    have c5b0 : decide (a2 < 2) = false := decide_eq_false c5
    clear c5
    by_cases c17 : a2 > 32
    · rw [if_pos c17] at H
      have c17b0 : decide (32 < a2) = true := decide_eq_true c17
      clear c17
      simp only [Option.some.injEq, Prod.mk.injEq] at H
      obtain ⟨rfl, rfl⟩ := H
      go_enter Try.func26, Try.ntmps26
      go_wp2_with (first | ((with_reducible refine gate_dst (N := 3) rfl ?_); refine box_event ?hg (N := 3) ?hd (cs := #[.slice A0_0 l0_0.length c0_0, .int .i64 a0_1]) (t := 27) ?hr ?_; (case hd => rfl); (case hg => rfl); (case hr => first | (go_simp; done) | (go_simp; rfl)); intro gb166 hg w18 hbox hb; have n0_ := Aside0.mk (below_step (by repeat (first | (with_reducible first | exact HB.out | apply below_alloc | apply pw_below_drewN | apply below_drew1) | exact HB.out)) hb); have n1_ := Aside0.mk (hbox); have n2_ := Aside0.mk ((by rw [hg]; exact (below_size (by repeat (first | (with_reducible first | exact HB.out | apply below_alloc | apply pw_below_drewN | apply below_drew1) | exact HB.out))) : w.heap.size ≤ gb166)); have n3_ := Aside0.mk ((by rw [hg]; exact (below_size (by repeat (first | (with_reducible first | exact HB.out | apply below_alloc | apply pw_below_drewN | apply below_drew1) | exact HB.out))) : w.heap.size ≤ gb166)); clear HB; have HB := n0_; have BK166 := n1_; have GW166 := n2_; have GE166 := n3_; clear n0_ n1_ n2_ n3_; clear hb hbox hg) | ((with_reducible refine gate_dst (N := 6) rfl ?_); refine box_event ?hg (N := 6) ?hd (cs := #[.slice none 0 0, .int .i64 0]) (t := 27) ?hr ?_; (case hd => rfl); (case hg => rfl); (case hr => first | (go_simp; done) | (go_simp; rfl)); intro gb167 hg w19 hbox hb; have n0_ := Aside0.mk (blk_below (g := gb166) (o := .cells #[.slice A0_0 l0_0.length c0_0, .int .i64 a0_1] 27 (0, 0)) (by (with_reducible repeat (first | refine blk_drewN ?_ _ | refine blk_drew ?_ | refine blk_alloc ?_ _)); exact BK166.out) hb); have n1_ := Aside0.mk (below_step (by repeat (first | (with_reducible first | exact HB.out | apply below_alloc | apply pw_below_drewN | apply below_drew1 | refine below_set ?_ GE166.out) | exact HB.out)) hb); have n2_ := Aside0.mk (hbox); have n3_ := Aside0.mk ((by rw [hg]; exact (below_size (by repeat (first | (with_reducible first | exact HB.out | apply below_alloc | apply pw_below_drewN | apply below_drew1 | refine below_set ?_ GE166.out) | exact HB.out))) : w.heap.size ≤ gb167)); have n4_ := Aside0.mk ((by rw [hg]; exact (below_size (by repeat (first | (with_reducible first | exact HB.out | apply below_alloc | apply pw_below_drewN | apply below_drew1 | refine below_set ?_ GE166.out) | exact HB.out))) : w.heap.size ≤ gb167)); have n5_ := Aside0.mk ((by rw [hg]; exact Nat.ne_of_lt (blk_lt (g := gb166) (o := .cells #[.slice A0_0 l0_0.length c0_0, .int .i64 a0_1] 27 (0, 0)) (by (with_reducible repeat (first | refine blk_drewN ?_ _ | refine blk_drew ?_ | refine blk_alloc ?_ _)); exact BK166.out)) : gb166 ≠ gb167)); have n6_ := Aside0.mk ((by rw [hg]; exact Nat.ne_of_gt (blk_lt (g := gb166) (o := .cells #[.slice A0_0 l0_0.length c0_0, .int .i64 a0_1] 27 (0, 0)) (by (with_reducible repeat (first | refine blk_drewN ?_ _ | refine blk_drew ?_ | refine blk_alloc ?_ _)); exact BK166.out)) : gb167 ≠ gb166)); clear BK166; clear HB; have BK166 := n0_; have HB := n1_; have BK167 := n2_; have GW167 := n3_; have GE167 := n4_; have NB166_167 := n5_; have NB167_166 := n6_; clear n0_ n1_ n2_ n3_ n4_ n5_ n6_; clear hb hbox hg; have hnb20 := NB166_167.out; have hnc20 := NB167_166.out; have hcz21_0 : w19.cell? ⟨gb166, 0, none⟩ = some (.slice A0_0 l0_0.length c0_0) := (blk_cell BK166.out 0).trans rfl; have hcz21_1 : w19.cell? ⟨gb166, 1, none⟩ = some (.int .i64 a0_1) := (blk_cell BK166.out 1).trans rfl; have hfz21_0 := blk_frozen BK166.out 0; have hfz21_1 := blk_frozen BK166.out 1) | ((with_reducible refine gate_callee (f := 43) rfl ?_); refine goesL_ (some 9) rfl rfl Try.func43 (by kernel_rfl) rfl #[.agg #[.slice A0_0 l0_0.length c0_0, .int .i64 a0_1]] rfl (by (try simp only [List.map_toArray, List.map_cons, List.map_nil]); first | done | rfl | (simp only [List.length_drop, List.length_take]; rfl)) ?_; (with_reducible refine (spec_l6Start.calls k _ _ l0_0 a0_1 t168 t171 _ ?side1 ?side2 A4.out).mono ?_); (case side1 => repeat (first | exact (Kd.C_below HR0_0.out HB.out) | (with_reducible refine Kd.C_alloc ?_ _) | (with_reducible refine Kd.C_drewN ?_ _) | (with_reducible refine Kd.C_drew ?_))); (case side2 => exact HC0_0.out); rintro e w22 ⟨v169, rfl, ho0, hb⟩; refine ⟨_, rfl, ?_⟩; have n0_ := Aside0.mk (Kd.R_lower ho0 (below_size (by repeat (first | (with_reducible first | exact HB.out | apply below_alloc | apply pw_below_drewN | apply below_drew1 | refine below_set ?_ GE166.out | refine below_set ?_ GE167.out) | exact HB.out)))); have n1_ := Aside0.mk (blk_below (g := gb166) (o := .cells #[.slice A0_0 l0_0.length c0_0, .int .i64 a0_1] 27 (0, 0)) (by (with_reducible repeat (first | refine blk_drewN ?_ _ | refine blk_drew ?_ | refine blk_alloc ?_ _)); exact BK166.out) hb); have n2_ := Aside0.mk (blk_below (g := gb167) (o := .cells #[.slice none 0 0, .int .i64 0] 27 (0, 0)) (by (with_reducible repeat (first | refine blk_drewN ?_ _ | refine blk_drew ?_ | refine blk_alloc ?_ _)); exact BK167.out) hb); have n3_ := Aside0.mk (below_step (by repeat (first | (with_reducible first | exact HB.out | apply below_alloc | apply pw_below_drewN | apply below_drew1 | refine below_set ?_ GE166.out | refine below_set ?_ GE167.out) | exact HB.out)) hb); clear BK166; clear BK167; clear HB; have HO170 := n0_; have BK166 := n1_; have BK167 := n2_; have HB := n3_; clear n0_ n1_ n2_ n3_; (try clear hb); (try clear hb2); (try clear hk); (try clear hi); (try clear ho0)) | ((with_reducible refine gate_dst (N := 7) rfl ?_); refine box_event ?hg (N := 7) ?hd (cs := #[.slice none 0 0, .int .i64 0]) (t := 27) ?hr ?_; (case hd => rfl); (case hg => rfl); (case hr => first | (go_simp; done) | (go_simp; rfl)); intro gb172 hg w23 hbox hb; have n0_ := Aside0.mk (Kd.R_below (by (with_reducible repeat (first | apply Kd.R_alloc | apply Kd.R_drewN | apply Kd.R_drew)); exact HO170.out) hb); have n1_ := Aside0.mk (blk_below (g := gb166) (o := .cells #[.slice A0_0 l0_0.length c0_0, .int .i64 a0_1] 27 (0, 0)) (by (with_reducible repeat (first | refine blk_drewN ?_ _ | refine blk_drew ?_ | refine blk_alloc ?_ _)); exact BK166.out) hb); have n2_ := Aside0.mk (blk_below (g := gb167) (o := .cells #[.slice none 0 0, .int .i64 0] 27 (0, 0)) (by (with_reducible repeat (first | refine blk_drewN ?_ _ | refine blk_drew ?_ | refine blk_alloc ?_ _)); exact BK167.out) hb); have n3_ := Aside0.mk (below_step (by repeat (first | (with_reducible first | exact HB.out | apply below_alloc | apply pw_below_drewN | apply below_drew1 | refine below_set ?_ GE166.out | refine below_set ?_ GE167.out) | exact HB.out)) hb); have n4_ := Aside0.mk (hbox); have n5_ := Aside0.mk ((by rw [hg]; exact (below_size (by repeat (first | (with_reducible first | exact HB.out | apply below_alloc | apply pw_below_drewN | apply below_drew1 | refine below_set ?_ GE166.out | refine below_set ?_ GE167.out) | exact HB.out))) : w.heap.size ≤ gb172)); have n6_ := Aside0.mk ((by rw [hg]; exact (below_size (by repeat (first | (with_reducible first | exact HB.out | apply below_alloc | apply pw_below_drewN | apply below_drew1 | refine below_set ?_ GE166.out | refine below_set ?_ GE167.out) | exact HB.out))) : w.heap.size ≤ gb172)); have n7_ := Aside0.mk ((by rw [hg]; exact Nat.ne_of_lt (blk_lt (g := gb166) (o := .cells #[.slice A0_0 l0_0.length c0_0, .int .i64 a0_1] 27 (0, 0)) (by (with_reducible repeat (first | refine blk_drewN ?_ _ | refine blk_drew ?_ | refine blk_alloc ?_ _)); exact BK166.out)) : gb166 ≠ gb172)); have n8_ := Aside0.mk ((by rw [hg]; exact Nat.ne_of_gt (blk_lt (g := gb166) (o := .cells #[.slice A0_0 l0_0.length c0_0, .int .i64 a0_1] 27 (0, 0)) (by (with_reducible repeat (first | refine blk_drewN ?_ _ | refine blk_drew ?_ | refine blk_alloc ?_ _)); exact BK166.out)) : gb172 ≠ gb166)); have n9_ := Aside0.mk ((by rw [hg]; exact Nat.ne_of_lt (blk_lt (g := gb167) (o := .cells #[.slice none 0 0, .int .i64 0] 27 (0, 0)) (by (with_reducible repeat (first | refine blk_drewN ?_ _ | refine blk_drew ?_ | refine blk_alloc ?_ _)); exact BK167.out)) : gb167 ≠ gb172)); have n10_ := Aside0.mk ((by rw [hg]; exact Nat.ne_of_gt (blk_lt (g := gb167) (o := .cells #[.slice none 0 0, .int .i64 0] 27 (0, 0)) (by (with_reducible repeat (first | refine blk_drewN ?_ _ | refine blk_drew ?_ | refine blk_alloc ?_ _)); exact BK167.out)) : gb172 ≠ gb167)); clear HO170; clear BK166; clear BK167; clear HB; have HO170 := n0_; have BK166 := n1_; have BK167 := n2_; have HB := n3_; have BK172 := n4_; have GW172 := n5_; have GE172 := n6_; have NB166_172 := n7_; have NB172_166 := n8_; have NB167_172 := n9_; have NB172_167 := n10_; clear n0_ n1_ n2_ n3_ n4_ n5_ n6_ n7_ n8_ n9_ n10_; clear hb hbox hg; obtain ⟨Ao24, co24, eo24⟩ := Kd.R_slice HO170.out; subst eo24; have hnb25 := NB172_166.out; have hnc25 := NB166_172.out; have hnb26 := NB172_167.out; have hnc26 := NB167_172.out; have hcz27_0 : w23.cell? ⟨gb172, 0, none⟩ = some (.slice none 0 0) := (blk_cell BK172.out 0).trans rfl; have hcz27_1 : w23.cell? ⟨gb172, 1, none⟩ = some (.int .i64 0) := (blk_cell BK172.out 1).trans rfl; have hfz27_0 := blk_frozen BK172.out 0; have hfz27_1 := blk_frozen BK172.out 1; have hcz28_0 : w23.cell? ⟨gb167, 0, none⟩ = some (.slice none 0 0) := (blk_cell BK167.out 0).trans rfl; have hcz28_1 : w23.cell? ⟨gb167, 1, none⟩ = some (.int .i64 0) := (blk_cell BK167.out 1).trans rfl; have hfz28_0 := blk_frozen BK167.out 0; have hfz28_1 := blk_frozen BK167.out 1))
      refine bodyPost_ret (results_cell_row rfl _ _ gb167 27 #[.slice Ao24 t168.length co24, .int .i64 t171] (0, 0) _ rfl (by (with_reducible repeat (first | refine blk_drewN ?_ _ | refine blk_drew ?_ | refine blk_alloc ?_ _)); refine blk_put (cs := #[.slice Ao24 t168.length co24, .int .i64 0]) ?_ 1 _ rfl; (with_reducible repeat (first | refine blk_drewN ?_ _ | refine blk_drew ?_ | refine blk_alloc ?_ _)); refine blk_put (cs := #[.slice none 0 0, .int .i64 0]) ?_ 0 _ rfl; (with_reducible repeat (first | refine blk_drewN ?_ _ | refine blk_drew ?_ | refine blk_alloc ?_ _)); refine blk_far ?_ NB167_172.out _; (with_reducible repeat (first | refine blk_drewN ?_ _ | refine blk_drew ?_ | refine blk_alloc ?_ _)); refine blk_far ?_ NB167_172.out _; (with_reducible repeat (first | refine blk_drewN ?_ _ | refine blk_drew ?_ | refine blk_alloc ?_ _)); exact BK167.out) Try.underlying27 rfl (by kernel_rfl)) rfl ?_
      exact ⟨_, by first | rfl | (simp [errW_none, errW_some] <;> rfl) | (simp [*, errW_none, errW_some] <;> rfl), by (with_reducible repeat (first | apply Kd.R_alloc | apply Kd.R_drewN | apply Kd.R_drew)); exact Kd.R_mono (Kd.R_far (p := ⟨gb167, 1, none⟩) (Kd.R_far (p := ⟨gb167, 0, none⟩) (Kd.R_far (p := ⟨gb172, 1, none⟩) (Kd.R_far (p := ⟨gb172, 0, none⟩) (Kd.R_types (Kd.R_types HO170.out BK172.out (by decide)) BK167.out (by decide)) (fun _ hk => hk.1.2) (.slice Ao24 t168.length co24)) (fun _ hk => hk.1.2) (.int .i64 t171)) (fun _ hk => hk.2) (.slice Ao24 t168.length co24)) (fun _ hk => hk.2) (.int .i64 t171)) (fun _ hk => trivial), by repeat (first | (with_reducible first | exact HB.out | apply below_alloc | apply pw_below_drewN | apply below_drew1 | refine below_set ?_ GE166.out | refine below_set ?_ GE167.out | refine below_set ?_ GE172.out) | exact HB.out)⟩
    · rw [if_neg c17] at H
      have c17b0 : decide (32 < a2) = false := decide_eq_false c17
      clear c17
      replace H := Option.bind_eq_some_iff.mp H
      obtain ⟨⟨t173, t176⟩, A290, H⟩ := H
      replace H : (some (t173, t176)) = some (r1, r2) := H
      have A29 := Aside0.mk A290
      clear A290
      simp only [Option.some.injEq, Prod.mk.injEq] at H
      obtain ⟨rfl, rfl⟩ := H
      go_enter Try.func26, Try.ntmps26
      go_wp2_with (first | ((with_reducible refine gate_dst (N := 3) rfl ?_); refine box_event ?hg (N := 3) ?hd (cs := #[.slice A0_0 l0_0.length c0_0, .int .i64 a0_1]) (t := 27) ?hr ?_; (case hd => rfl); (case hg => rfl); (case hr => first | (go_simp; done) | (go_simp; rfl)); intro gb166 hg w30 hbox hb; have n0_ := Aside0.mk (below_step (by repeat (first | (with_reducible first | exact HB.out | apply below_alloc | apply pw_below_drewN | apply below_drew1) | exact HB.out)) hb); have n1_ := Aside0.mk (hbox); have n2_ := Aside0.mk ((by rw [hg]; exact (below_size (by repeat (first | (with_reducible first | exact HB.out | apply below_alloc | apply pw_below_drewN | apply below_drew1) | exact HB.out))) : w.heap.size ≤ gb166)); have n3_ := Aside0.mk ((by rw [hg]; exact (below_size (by repeat (first | (with_reducible first | exact HB.out | apply below_alloc | apply pw_below_drewN | apply below_drew1) | exact HB.out))) : w.heap.size ≤ gb166)); clear HB; have HB := n0_; have BK166 := n1_; have GW166 := n2_; have GE166 := n3_; clear n0_ n1_ n2_ n3_; clear hb hbox hg) | ((with_reducible refine gate_dst (N := 6) rfl ?_); refine box_event ?hg (N := 6) ?hd (cs := #[.slice none 0 0, .int .i64 0]) (t := 27) ?hr ?_; (case hd => rfl); (case hg => rfl); (case hr => first | (go_simp; done) | (go_simp; rfl)); intro gb167 hg w31 hbox hb; have n0_ := Aside0.mk (blk_below (g := gb166) (o := .cells #[.slice A0_0 l0_0.length c0_0, .int .i64 a0_1] 27 (0, 0)) (by (with_reducible repeat (first | refine blk_drewN ?_ _ | refine blk_drew ?_ | refine blk_alloc ?_ _)); exact BK166.out) hb); have n1_ := Aside0.mk (below_step (by repeat (first | (with_reducible first | exact HB.out | apply below_alloc | apply pw_below_drewN | apply below_drew1 | refine below_set ?_ GE166.out) | exact HB.out)) hb); have n2_ := Aside0.mk (hbox); have n3_ := Aside0.mk ((by rw [hg]; exact (below_size (by repeat (first | (with_reducible first | exact HB.out | apply below_alloc | apply pw_below_drewN | apply below_drew1 | refine below_set ?_ GE166.out) | exact HB.out))) : w.heap.size ≤ gb167)); have n4_ := Aside0.mk ((by rw [hg]; exact (below_size (by repeat (first | (with_reducible first | exact HB.out | apply below_alloc | apply pw_below_drewN | apply below_drew1 | refine below_set ?_ GE166.out) | exact HB.out))) : w.heap.size ≤ gb167)); have n5_ := Aside0.mk ((by rw [hg]; exact Nat.ne_of_lt (blk_lt (g := gb166) (o := .cells #[.slice A0_0 l0_0.length c0_0, .int .i64 a0_1] 27 (0, 0)) (by (with_reducible repeat (first | refine blk_drewN ?_ _ | refine blk_drew ?_ | refine blk_alloc ?_ _)); exact BK166.out)) : gb166 ≠ gb167)); have n6_ := Aside0.mk ((by rw [hg]; exact Nat.ne_of_gt (blk_lt (g := gb166) (o := .cells #[.slice A0_0 l0_0.length c0_0, .int .i64 a0_1] 27 (0, 0)) (by (with_reducible repeat (first | refine blk_drewN ?_ _ | refine blk_drew ?_ | refine blk_alloc ?_ _)); exact BK166.out)) : gb167 ≠ gb166)); clear BK166; clear HB; have BK166 := n0_; have HB := n1_; have BK167 := n2_; have GW167 := n3_; have GE167 := n4_; have NB166_167 := n5_; have NB167_166 := n6_; clear n0_ n1_ n2_ n3_ n4_ n5_ n6_; clear hb hbox hg; have hnb32 := NB166_167.out; have hnc32 := NB167_166.out; have hcz33_0 : w31.cell? ⟨gb166, 0, none⟩ = some (.slice A0_0 l0_0.length c0_0) := (blk_cell BK166.out 0).trans rfl; have hcz33_1 : w31.cell? ⟨gb166, 1, none⟩ = some (.int .i64 a0_1) := (blk_cell BK166.out 1).trans rfl; have hfz33_0 := blk_frozen BK166.out 0; have hfz33_1 := blk_frozen BK166.out 1) | ((with_reducible refine gate_callee (f := 43) rfl ?_); refine goesL_ (some 9) rfl rfl Try.func43 (by kernel_rfl) rfl #[.agg #[.slice A0_0 l0_0.length c0_0, .int .i64 a0_1]] rfl (by (try simp only [List.map_toArray, List.map_cons, List.map_nil]); first | done | rfl | (simp only [List.length_drop, List.length_take]; rfl)) ?_; (with_reducible refine (spec_l6Start.calls k _ _ l0_0 a0_1 t168 t171 _ ?side1 ?side2 A4.out).mono ?_); (case side1 => repeat (first | exact (Kd.C_below HR0_0.out HB.out) | (with_reducible refine Kd.C_alloc ?_ _) | (with_reducible refine Kd.C_drewN ?_ _) | (with_reducible refine Kd.C_drew ?_))); (case side2 => exact HC0_0.out); rintro e w34 ⟨v169, rfl, ho0, hb⟩; refine ⟨_, rfl, ?_⟩; have n0_ := Aside0.mk (Kd.R_lower ho0 (below_size (by repeat (first | (with_reducible first | exact HB.out | apply below_alloc | apply pw_below_drewN | apply below_drew1 | refine below_set ?_ GE166.out | refine below_set ?_ GE167.out) | exact HB.out)))); have n1_ := Aside0.mk (blk_below (g := gb166) (o := .cells #[.slice A0_0 l0_0.length c0_0, .int .i64 a0_1] 27 (0, 0)) (by (with_reducible repeat (first | refine blk_drewN ?_ _ | refine blk_drew ?_ | refine blk_alloc ?_ _)); exact BK166.out) hb); have n2_ := Aside0.mk (blk_below (g := gb167) (o := .cells #[.slice none 0 0, .int .i64 0] 27 (0, 0)) (by (with_reducible repeat (first | refine blk_drewN ?_ _ | refine blk_drew ?_ | refine blk_alloc ?_ _)); exact BK167.out) hb); have n3_ := Aside0.mk (below_step (by repeat (first | (with_reducible first | exact HB.out | apply below_alloc | apply pw_below_drewN | apply below_drew1 | refine below_set ?_ GE166.out | refine below_set ?_ GE167.out) | exact HB.out)) hb); clear BK166; clear BK167; clear HB; have HO170 := n0_; have BK166 := n1_; have BK167 := n2_; have HB := n3_; clear n0_ n1_ n2_ n3_; (try clear hb); (try clear hb2); (try clear hk); (try clear hi); (try clear ho0)) | ((with_reducible refine gate_dst (N := 7) rfl ?_); refine box_event ?hg (N := 7) ?hd (cs := #[.slice none 0 0, .int .i64 0]) (t := 27) ?hr ?_; (case hd => rfl); (case hg => rfl); (case hr => first | (go_simp; done) | (go_simp; rfl)); intro gb172 hg w35 hbox hb; have n0_ := Aside0.mk (Kd.R_below (by (with_reducible repeat (first | apply Kd.R_alloc | apply Kd.R_drewN | apply Kd.R_drew)); exact HO170.out) hb); have n1_ := Aside0.mk (blk_below (g := gb166) (o := .cells #[.slice A0_0 l0_0.length c0_0, .int .i64 a0_1] 27 (0, 0)) (by (with_reducible repeat (first | refine blk_drewN ?_ _ | refine blk_drew ?_ | refine blk_alloc ?_ _)); exact BK166.out) hb); have n2_ := Aside0.mk (blk_below (g := gb167) (o := .cells #[.slice none 0 0, .int .i64 0] 27 (0, 0)) (by (with_reducible repeat (first | refine blk_drewN ?_ _ | refine blk_drew ?_ | refine blk_alloc ?_ _)); exact BK167.out) hb); have n3_ := Aside0.mk (below_step (by repeat (first | (with_reducible first | exact HB.out | apply below_alloc | apply pw_below_drewN | apply below_drew1 | refine below_set ?_ GE166.out | refine below_set ?_ GE167.out) | exact HB.out)) hb); have n4_ := Aside0.mk (hbox); have n5_ := Aside0.mk ((by rw [hg]; exact (below_size (by repeat (first | (with_reducible first | exact HB.out | apply below_alloc | apply pw_below_drewN | apply below_drew1 | refine below_set ?_ GE166.out | refine below_set ?_ GE167.out) | exact HB.out))) : w.heap.size ≤ gb172)); have n6_ := Aside0.mk ((by rw [hg]; exact (below_size (by repeat (first | (with_reducible first | exact HB.out | apply below_alloc | apply pw_below_drewN | apply below_drew1 | refine below_set ?_ GE166.out | refine below_set ?_ GE167.out) | exact HB.out))) : w.heap.size ≤ gb172)); have n7_ := Aside0.mk ((by rw [hg]; exact Nat.ne_of_lt (blk_lt (g := gb166) (o := .cells #[.slice A0_0 l0_0.length c0_0, .int .i64 a0_1] 27 (0, 0)) (by (with_reducible repeat (first | refine blk_drewN ?_ _ | refine blk_drew ?_ | refine blk_alloc ?_ _)); exact BK166.out)) : gb166 ≠ gb172)); have n8_ := Aside0.mk ((by rw [hg]; exact Nat.ne_of_gt (blk_lt (g := gb166) (o := .cells #[.slice A0_0 l0_0.length c0_0, .int .i64 a0_1] 27 (0, 0)) (by (with_reducible repeat (first | refine blk_drewN ?_ _ | refine blk_drew ?_ | refine blk_alloc ?_ _)); exact BK166.out)) : gb172 ≠ gb166)); have n9_ := Aside0.mk ((by rw [hg]; exact Nat.ne_of_lt (blk_lt (g := gb167) (o := .cells #[.slice none 0 0, .int .i64 0] 27 (0, 0)) (by (with_reducible repeat (first | refine blk_drewN ?_ _ | refine blk_drew ?_ | refine blk_alloc ?_ _)); exact BK167.out)) : gb167 ≠ gb172)); have n10_ := Aside0.mk ((by rw [hg]; exact Nat.ne_of_gt (blk_lt (g := gb167) (o := .cells #[.slice none 0 0, .int .i64 0] 27 (0, 0)) (by (with_reducible repeat (first | refine blk_drewN ?_ _ | refine blk_drew ?_ | refine blk_alloc ?_ _)); exact BK167.out)) : gb172 ≠ gb167)); clear HO170; clear BK166; clear BK167; clear HB; have HO170 := n0_; have BK166 := n1_; have BK167 := n2_; have HB := n3_; have BK172 := n4_; have GW172 := n5_; have GE172 := n6_; have NB166_172 := n7_; have NB172_166 := n8_; have NB167_172 := n9_; have NB172_167 := n10_; clear n0_ n1_ n2_ n3_ n4_ n5_ n6_ n7_ n8_ n9_ n10_; clear hb hbox hg; obtain ⟨Ao36, co36, eo36⟩ := Kd.R_slice HO170.out; subst eo36; have hnb37 := NB172_166.out; have hnc37 := NB166_172.out; have hnb38 := NB172_167.out; have hnc38 := NB167_172.out; have hcz39_0 : w35.cell? ⟨gb172, 0, none⟩ = some (.slice none 0 0) := (blk_cell BK172.out 0).trans rfl; have hcz39_1 : w35.cell? ⟨gb172, 1, none⟩ = some (.int .i64 0) := (blk_cell BK172.out 1).trans rfl; have hfz39_0 := blk_frozen BK172.out 0; have hfz39_1 := blk_frozen BK172.out 1) | ((with_reducible refine gate_store (t := 27) (p := 7) rfl ?_); refine store_event (t := 27) (p := 7) (v := ?vo_w40) (w1 := ((w35.setCell ⟨gb172, 0, none⟩ (.slice Ao36 t168.length co36)).setCell ⟨gb172, 1, none⟩ (.int .i64 t171))) ?hg ?ho ?hn ?hr ?_; (case ho => rfl); (case hg => rfl); (case hn => rfl); (case hr => first | (go_simp; done) | (go_simp; rfl)); intro w40 hw; have n0_ : Aside0 (Kd.R (Kd.int .u8) 5 w40 w.heap.size (fun _ => True) (.slice Ao36 t168.length co36) t168) := ⟨(by rw [hw]; exact (by (with_reducible repeat (first | apply Kd.R_alloc | apply Kd.R_drewN | apply Kd.R_drew)); exact Kd.R_mono (Kd.R_far (p := ⟨gb172, 1, none⟩) (Kd.R_far (p := ⟨gb172, 0, none⟩) (Kd.R_types HO170.out BK172.out (by decide)) (fun _ hk => hk.2) (.slice Ao36 t168.length co36)) (fun _ hk => hk.2) (.int .i64 t171)) (fun _ hk => trivial)))⟩; have n1_ : Aside0 (w40.heap[gb166]? = some (.cells #[.slice A0_0 l0_0.length c0_0, .int .i64 a0_1] 27 (0, 0))) := ⟨(by rw [hw]; exact (by (with_reducible repeat (first | refine blk_drewN ?_ _ | refine blk_drew ?_ | refine blk_alloc ?_ _)); refine blk_far ?_ NB166_172.out _; (with_reducible repeat (first | refine blk_drewN ?_ _ | refine blk_drew ?_ | refine blk_alloc ?_ _)); refine blk_far ?_ NB166_172.out _; (with_reducible repeat (first | refine blk_drewN ?_ _ | refine blk_drew ?_ | refine blk_alloc ?_ _)); exact BK166.out))⟩; have n2_ : Aside0 (w40.heap[gb167]? = some (.cells #[.slice none 0 0, .int .i64 0] 27 (0, 0))) := ⟨(by rw [hw]; exact (by (with_reducible repeat (first | refine blk_drewN ?_ _ | refine blk_drew ?_ | refine blk_alloc ?_ _)); refine blk_far ?_ NB167_172.out _; (with_reducible repeat (first | refine blk_drewN ?_ _ | refine blk_drew ?_ | refine blk_alloc ?_ _)); refine blk_far ?_ NB167_172.out _; (with_reducible repeat (first | refine blk_drewN ?_ _ | refine blk_drew ?_ | refine blk_alloc ?_ _)); exact BK167.out))⟩; have n3_ : Aside0 (w40.heap[gb172]? = some (.cells #[.slice Ao36 t168.length co36, .int .i64 t171] 27 (0, 0))) := ⟨(by rw [hw]; exact (by (with_reducible repeat (first | refine blk_drewN ?_ _ | refine blk_drew ?_ | refine blk_alloc ?_ _)); refine blk_put (cs := #[.slice Ao36 t168.length co36, .int .i64 0]) ?_ 1 _ rfl; (with_reducible repeat (first | refine blk_drewN ?_ _ | refine blk_drew ?_ | refine blk_alloc ?_ _)); refine blk_put (cs := #[.slice none 0 0, .int .i64 0]) ?_ 0 _ rfl; (with_reducible repeat (first | refine blk_drewN ?_ _ | refine blk_drew ?_ | refine blk_alloc ?_ _)); exact BK172.out))⟩; have n4_ : Aside0 (Below w.heap.size w w40) := ⟨(by rw [hw]; exact (by repeat (first | (with_reducible first | exact HB.out | apply below_alloc | apply pw_below_drewN | apply below_drew1 | refine below_set ?_ GE166.out | refine below_set ?_ GE167.out | refine below_set ?_ GE172.out) | exact HB.out)))⟩; clear hw; clear HO170; clear BK166; clear BK167; clear BK172; clear HB; have HO170 := n0_; have BK166 := n1_; have BK167 := n2_; have BK172 := n3_; have HB := n4_; clear n0_ n1_ n2_ n3_ n4_; have hcz41_0 : w40.cell? ⟨gb172, 0, none⟩ = some (.slice Ao36 t168.length co36) := (blk_cell BK172.out 0).trans rfl; have hcz41_1 : w40.cell? ⟨gb172, 1, none⟩ = some (.int .i64 t171) := (blk_cell BK172.out 1).trans rfl; have hfz41_0 := blk_frozen BK172.out 0; have hfz41_1 := blk_frozen BK172.out 1) | ((with_reducible refine gate_callee (f := 50) rfl ?_); refine goesL_ (some 20) rfl rfl Try.func50 (by kernel_rfl) rfl #[.agg #[.slice Ao36 t168.length co36, .int .i64 t171], .int .u64 a1, .int .i64 a2] rfl (by (try simp only [List.map_toArray, List.map_cons, List.map_nil]); first | done | rfl | (simp only [List.length_drop, List.length_take]; rfl)) ?_; (with_reducible refine (spec_l6PutVar.calls k (fun k_ => some k_ = (.slice Ao36 t168.length co36 : Value).ownBlock) (.slice Ao36 t168.length co36) t168 t171 a1 a2 t173 t176 w _ ?side1 ?side2 A29.out).mono ?_); (case side1 => repeat (first | (with_reducible first | exact HB.out | apply below_alloc | apply pw_below_drewN | apply below_drew1 | refine below_set ?_ GE166.out | refine below_set ?_ GE167.out | refine below_set ?_ GE172.out) | exact HB.out)); (case side2 => exact Kd.R_tight rfl HO170.out); rintro e w42 ⟨v174, rfl, ho0, hb, hkp⟩; refine ⟨_, rfl, ?_⟩; have n0_ := Aside0.mk (blk_kept (by (with_reducible repeat (first | refine blk_drewN ?_ _ | refine blk_drew ?_ | refine blk_alloc ?_ _)); exact BK166.out) hkp (fun hs_ => (fun e_ => (Kd.R_ne HO170.out BK166.out (by decide)) e_) hs_)); have n1_ := Aside0.mk (blk_kept (by (with_reducible repeat (first | refine blk_drewN ?_ _ | refine blk_drew ?_ | refine blk_alloc ?_ _)); exact BK167.out) hkp (fun hs_ => (fun e_ => (Kd.R_ne HO170.out BK167.out (by decide)) e_) hs_)); have n2_ := Aside0.mk (blk_kept (by (with_reducible repeat (first | refine blk_drewN ?_ _ | refine blk_drew ?_ | refine blk_alloc ?_ _)); exact BK172.out) hkp (fun hs_ => (fun e_ => (Kd.R_ne HO170.out BK172.out (by decide)) e_) hs_)); have n3_ := Aside0.mk (Kd.R_mono (ok' := fun k_ => True) ho0 (fun k_ hk_ => trivial)); have n4_ := Aside0.mk (hb); clear BK166; clear BK167; clear BK172; clear HB; clear HO170; have BK166 := n0_; have BK167 := n1_; have BK172 := n2_; have HO175 := n3_; have HB := n4_; clear n0_ n1_ n2_ n3_ n4_; (try clear hb); (try clear hkp); (try clear ho0); obtain ⟨Ao43, co43, eo43⟩ := Kd.R_slice HO175.out; subst eo43; have hcz44_0 : w42.cell? ⟨gb167, 0, none⟩ = some (.slice none 0 0) := (blk_cell BK167.out 0).trans rfl; have hcz44_1 : w42.cell? ⟨gb167, 1, none⟩ = some (.int .i64 0) := (blk_cell BK167.out 1).trans rfl; have hfz44_0 := blk_frozen BK167.out 0; have hfz44_1 := blk_frozen BK167.out 1))
      refine bodyPost_ret (results_cell_row rfl _ _ gb167 27 #[.slice Ao43 t173.length co43, .int .i64 t176] (0, 0) _ rfl (by (with_reducible repeat (first | refine blk_drewN ?_ _ | refine blk_drew ?_ | refine blk_alloc ?_ _)); refine blk_put (cs := #[.slice Ao43 t173.length co43, .int .i64 0]) ?_ 1 _ rfl; (with_reducible repeat (first | refine blk_drewN ?_ _ | refine blk_drew ?_ | refine blk_alloc ?_ _)); refine blk_put (cs := #[.slice none 0 0, .int .i64 0]) ?_ 0 _ rfl; (with_reducible repeat (first | refine blk_drewN ?_ _ | refine blk_drew ?_ | refine blk_alloc ?_ _)); exact BK167.out) Try.underlying27 rfl (by kernel_rfl)) rfl ?_
      exact ⟨_, by first | rfl | (simp [errW_none, errW_some] <;> rfl) | (simp [*, errW_none, errW_some] <;> rfl), by (with_reducible repeat (first | apply Kd.R_alloc | apply Kd.R_drewN | apply Kd.R_drew)); exact Kd.R_mono (Kd.R_far (p := ⟨gb167, 1, none⟩) (Kd.R_far (p := ⟨gb167, 0, none⟩) (Kd.R_types HO175.out BK167.out (by decide)) (fun _ hk => hk.2) (.slice Ao43 t173.length co43)) (fun _ hk => hk.2) (.int .i64 t176)) (fun _ hk => trivial), by repeat (first | (with_reducible first | exact HB.out | apply below_alloc | apply pw_below_drewN | apply below_drew1 | refine below_set ?_ GE166.out | refine below_set ?_ GE167.out | refine below_set ?_ GE172.out) | exact HB.out)⟩

/-! ### impl_bitsOk: function 78 -/
def impl_bitsOk.j0 : Nat → Bool → List Int → Int → Option (Bool)
  | 0, _, _, _ => none
  | k + 1, x21, x178000, x178001 => if x21 = true then (some false) else (if (Int.tmod x178001 8) > 0 then (if 0 ≤ (wrap64 ((x178000.length : Int) - 1)) then (if (wrap64 ((x178000.length : Int) - 1)) < (x178000.length : Int) then (if 0 ≤ (Int.tmod x178001 8) then (if (shr .u8 (rd x178000 (wrap64 ((x178000.length : Int) - 1))) (Int.tmod x178001 8)) = 0 then (some true) else (some false)) else (none)) else (none)) else (none)) else (some true))
def impl_bitsOk.f (k : Nat) (l0_0 : List Int) (a0_1 : Int) : Option (Bool) := if a0_1 < 0 then (impl_bitsOk.j0 k true l0_0 a0_1) else (impl_bitsOk.j0 k ((l0_0.length : Int) != (wrap64 ((wrap64 (Int.tdiv a0_1 8)) + (wrap64 (Int.tdiv (wrap64 ((Int.tmod a0_1 8) + 7)) 8))))) l0_0 a0_1)
theorem impl_bitsOk.mono_l : ∀ k, (∀ y0 y1 y2, LeO (impl_bitsOk.j0 k y0 y1 y2) (impl_bitsOk.j0 (k + 1) y0 y1 y2))
  | 0 => fun _ _ _ r h => by simp [impl_bitsOk.j0] at h
  | k + 1 => by
    have ih0 := impl_bitsOk.mono_l k
    · intro y0 y1 y2
      unfold impl_bitsOk.j0
      repeat' first
      | (with_reducible exact ih0 _ _ _)
      | (with_reducible exact LeO.refl _)
      | (with_reducible exact LeO.none _)
      | (with_reducible refine LeO.ite ?_ ?_)
      | (with_reducible refine LeO.bind ?_ (fun _ => ?_))
      | exact ih0 _ _ _
      | exact LeO.none _
      | refine LeO.ite ?_ ?_
      | refine LeO.bind ?_ (fun _ => ?_)
theorem impl_bitsOk.mono : ∀ a0 a1 k, LeO (impl_bitsOk.f k a0 a1) (impl_bitsOk.f (k + 1) a0 a1) := by
  intro a0 a1 k
  have ih0 := impl_bitsOk.mono_l k
  unfold impl_bitsOk.f
  repeat' first
      | (with_reducible exact ih0 _ _ _)
      | (with_reducible exact LeO.refl _)
      | (with_reducible exact LeO.none _)
      | (with_reducible refine LeO.ite ?_ ?_)
      | (with_reducible refine LeO.bind ?_ (fun _ => ?_))
      | exact ih0 _ _ _
      | exact LeO.none _
      | refine LeO.ite ?_ ?_
      | refine LeO.bind ?_ (fun _ => ?_)
set_option maxHeartbeats 8000000 in
set_option maxRecDepth 100000 in
theorem impl_bitsOk.calls (k : Nat) (A0_0 : Option Addr) (c0_0 : Nat) (l0_0 : List Int) (a0_1 : Int) (r : Bool) (w : World) (hr0_0 : Kd.C (Kd.int .u8) w A0_0 l0_0.length l0_0) (hc0_0 : l0_0.length ≤ c0_0) (h : impl_bitsOk.f k l0_0 a0_1 = some r) :
    Calls Try.prog 78 #[.agg #[.slice A0_0 l0_0.length c0_0, .int .i64 a0_1]] w fun e w' => e = .returned (.bool r) ∧ Below w.heap.size w w' := by
  have hu27 := Try.underlying27
  have HR0_0 := Aside0.mk hr0_0
  have HC0_0 := Aside0.mk hc0_0
  clear hr0_0 hc0_0
  have HB := Aside0.mk (Below.refl w.heap.size w)
  have H : (if a0_1 < 0 then (impl_bitsOk.j0 k true l0_0 a0_1) else (impl_bitsOk.j0 k ((l0_0.length : Int) != (wrap64 ((wrap64 (Int.tdiv a0_1 8)) + (wrap64 (Int.tdiv (wrap64 ((Int.tmod a0_1 8) + 7)) 8))))) l0_0 a0_1)) = some r := h
  clear h
  have HC2 := Aside0.mk H
  clear H
  go_enter Try.func78, Try.ntmps78
  go_upto_region 1 with (first | ((with_reducible refine gate_dst (N := 1) rfl ?_); (try (refine gate_guard (by rfl) ?_; dsimp only)); refine box_event ?hg (N := 1) ?hd (cs := #[.slice A0_0 l0_0.length c0_0, .int .i64 a0_1]) (t := 27) ?hr ?_; (case hd => rfl); (case hg => rfl); (case hr => first | (go_simp; done) | (go_simp; rfl)); intro gb177 hg w3 hbox hb; have n0_ := Aside0.mk (below_step (by repeat (first | (with_reducible first | exact HB.out | apply below_alloc | apply pw_below_drewN | apply below_drew1) | exact HB.out)) hb); have n1_ := Aside0.mk (hbox); have n2_ := Aside0.mk ((by rw [hg]; exact (below_size (by repeat (first | (with_reducible first | exact HB.out | apply below_alloc | apply pw_below_drewN | apply below_drew1) | exact HB.out))) : w.heap.size ≤ gb177)); have n3_ := Aside0.mk ((by rw [hg]; exact (below_size (by repeat (first | (with_reducible first | exact HB.out | apply below_alloc | apply pw_below_drewN | apply below_drew1) | exact HB.out))) : w.heap.size ≤ gb177)); clear HB; have HB := n0_; have BK177 := n1_; have GW177 := n2_; have GE177 := n3_; clear n0_ n1_ n2_ n3_; clear hb hbox hg))
  (try simp only [Act.put, List.setIfInBounds_toArray, List.set_cons_zero, List.set_cons_succ])
  go_cut [21] (fun v21 wc => ∃ (kq : Nat) (x21_1 : Bool), v21 = .bool x21_1 ∧ Aside0 (impl_bitsOk.j0 kq x21_1 l0_0 a0_1 = some r) ∧ Aside0 (kq ≤ k) ∧ Aside0 (wc.heap[gb177]? = some (.cells #[(.slice A0_0 l0_0.length c0_0), .int .i64 a0_1] 27 (0, 0))) ∧ Aside0 (Below w.heap.size w wc))
  case first =>
    have H := HC2.out
    clear HC2
    by_cases c4 : a0_1 < 0
    · rw [if_pos c4] at H
      have c4b0 : decide (a0_1 < 0) = true := decide_eq_true c4
      clear c4
      (first | rw [c4b0] | (simp only [i64_w, i32_w]; rw [c4b0]) | skip)
      have H' := Aside0.mk H
      clear H
      have hcz5_0 : w3.cell? ⟨gb177, 0, none⟩ = some (.slice A0_0 l0_0.length c0_0) := (blk_cell BK177.out 0).trans rfl
      have hcz5_1 : w3.cell? ⟨gb177, 1, none⟩ = some (.int .i64 a0_1) := (blk_cell BK177.out 1).trans rfl
      have hfz5_0 := blk_frozen BK177.out 0
      have hfz5_1 := blk_frozen BK177.out 1
      go_wp2
      go_meet
      case rel => exact ⟨_, (true), (by first | rfl | (simp; done) | (simp [*]; done)), H', ⟨by first | omega | exact Nat.le_refl _⟩, ⟨by (with_reducible repeat (first | refine blk_drewN ?_ _ | refine blk_drew ?_ | refine blk_alloc ?_ _)); exact BK177.out⟩, ⟨by repeat (first | (with_reducible first | exact HB.out | apply below_alloc | apply pw_below_drewN | apply below_drew1 | refine below_set ?_ GE177.out) | exact HB.out)⟩⟩
    · rw [if_neg c4] at H
      have c4b0 : decide (a0_1 < 0) = false := decide_eq_false c4
      clear c4
      (first | rw [c4b0] | (simp only [i64_w, i32_w]; rw [c4b0]) | skip)
      have H' := Aside0.mk H
      clear H
      have hcz6_0 : w3.cell? ⟨gb177, 0, none⟩ = some (.slice A0_0 l0_0.length c0_0) := (blk_cell BK177.out 0).trans rfl
      have hcz6_1 : w3.cell? ⟨gb177, 1, none⟩ = some (.int .i64 a0_1) := (blk_cell BK177.out 1).trans rfl
      have hfz6_0 := blk_frozen BK177.out 0
      have hfz6_1 := blk_frozen BK177.out 1
      go_wp2
      go_meet
      case rel => exact ⟨_, (((l0_0.length : Int) != (wrap64 ((wrap64 (Int.tdiv a0_1 8)) + (wrap64 (Int.tdiv (wrap64 ((Int.tmod a0_1 8) + 7)) 8)))))), (by first | rfl | (simp; done) | (simp [*]; done)), H', ⟨by first | omega | exact Nat.le_refl _⟩, ⟨by (with_reducible repeat (first | refine blk_drewN ?_ _ | refine blk_drew ?_ | refine blk_alloc ?_ _)); exact BK177.out⟩, ⟨by repeat (first | (with_reducible first | exact HB.out | apply below_alloc | apply pw_below_drewN | apply below_drew1 | refine below_set ?_ GE177.out) | exact HB.out)⟩⟩
  case rest =>
    clear HC2
    try clear p2
    try clear c4
    try clear c4b0
    try clear p6
    try clear hcz5_0
    try clear hcz5_1
    try clear hcz6_0
    try clear hcz6_1
    try clear hfz5_0
    try clear hfz5_1
    try clear hfz6_0
    try clear hfz6_1
    obtain ⟨kq, x21_1, rfl, HA, HJ1, BK177, HB⟩ := hcut
    cases kq with
    | zero => exact absurd HA.out (by simp [impl_bitsOk.j0])
    | succ kj1 =>
      have H := HA.out
      clear HA
      simp only [impl_bitsOk.j0] at H
      by_cases c7 : x21_1 = true
      · subst c7
        have H1 : (some false) = some r := by rw [if_pos rfl] at H; exact H
        clear H
        have H := H1
        clear H1
        obtain rfl := Option.some.inj H
        go_wp2
        go_ret
        exact ⟨by first | rfl | (simp [errW_none, errW_some] <;> rfl) | (simp [*, errW_none, errW_some] <;> rfl), by repeat (first | (with_reducible first | exact HB.out | apply below_alloc | apply pw_below_drewN | apply below_drew1 | refine below_set ?_ GE177.out) | exact HB.out)⟩
      · replace c7 := Bool.eq_false_iff.mpr c7
        subst c7
        have H1 : (if (Int.tmod a0_1 8) > 0 then (if 0 ≤ (wrap64 ((l0_0.length : Int) - 1)) then (if (wrap64 ((l0_0.length : Int) - 1)) < (l0_0.length : Int) then (if 0 ≤ (Int.tmod a0_1 8) then (if (shr .u8 (rd l0_0 (wrap64 ((l0_0.length : Int) - 1))) (Int.tmod a0_1 8)) = 0 then (some true) else (some false)) else (none)) else (none)) else (none)) else (some true)) = some r := by rw [if_neg (show ¬ (false = true) by decide)] at H; exact H
        clear H
        have H := H1
        clear H1
        by_cases c8 : (Int.tmod a0_1 8) > 0
        · rw [if_pos c8] at H
          have c8b0 : decide (0 < (Int.tmod a0_1 8)) = true := decide_eq_true c8
          clear c8
          obtain ⟨ji9, hji9⟩ : ∃ j_ : Int, (wrap64 ((l0_0.length : Int) - 1)) = j_ := ⟨_, rfl⟩
          replace H : (if 0 ≤ (ji9) then (if (ji9) < (l0_0.length : Int) then (if 0 ≤ (Int.tmod a0_1 8) then (if (shr .u8 (rd l0_0 (ji9)) (Int.tmod a0_1 8)) = 0 then (some true) else (some false)) else (none)) else (none)) else (none)) = some r := by first | (rw [hji9] at H; exact H) | (simp only [hji9] at H ⊢; exact H)
          have hji9w : (IntKind.i64.wrap ((l0_0.length : Int) - 1)) = ji9 := (i64_w _).trans hji9
          by_cases c10 : 0 ≤ (ji9)
          · rw [if_pos c10] at H
            have c10b0 : decide (0 ≤ (ji9)) = true := decide_eq_true c10
            clear c10
            by_cases c11 : (ji9) < (l0_0.length : Int)
            · rw [if_pos c11] at H
              have c11b0 : decide ((ji9) < (l0_0.length : Int)) = true := decide_eq_true c11
              clear c11
              obtain ⟨ji12, hji12⟩ : ∃ j_ : Int, (Int.tmod a0_1 8) = j_ := ⟨_, rfl⟩
              replace H : (if 0 ≤ (ji12) then (if (shr .u8 (rd l0_0 (ji9)) (ji12)) = 0 then (some true) else (some false)) else (none)) = some r := by first | (rw [hji12] at H; exact H) | (simp only [hji12] at H ⊢; exact H)
              (try rw [hji12] at c8b0)
              by_cases c13 : 0 ≤ (ji12)
              · rw [if_pos c13] at H
                have c13b0 := eq_true c13
                have c13b1 : decide (0 ≤ (ji12)) = true := decide_eq_true c13
                clear c13
                obtain ⟨ji14, hji14⟩ : ∃ j_ : Int, (shr .u8 (rd l0_0 (ji9)) (ji12)) = j_ := ⟨_, rfl⟩
                replace H : (if (ji14) = 0 then (some true) else (some false)) = some r := by first | (rw [hji14] at H; exact H) | (simp only [hji14] at H ⊢; exact H)
                have hji14_ : ((rd l0_0 (ji9)) / 2 ^ min (ji12).toNat 8) = ji14 := hji14
                have hji14z : (ji12) ≤ 8 → ((rd l0_0 (ji9)) / 2 ^ (ji12).toNat) = ji14 := shr_small hji14
                by_cases c15 : (ji14) = 0
                · rw [if_pos c15] at H
                  have c15b0 : ((ji14) == 0) = true := beq_iff_eq.mpr c15
                  have c15b1 : ((ji14) != 0) = false := bne_eq_false_iff_eq.mpr c15
                  clear c15
                  obtain rfl := Option.some.inj H
                  have hcz16_0 : wc.cell? ⟨gb177, 0, none⟩ = some (.slice A0_0 l0_0.length c0_0) := (blk_cell BK177.out 0).trans rfl
                  have hcz16_1 : wc.cell? ⟨gb177, 1, none⟩ = some (.int .i64 a0_1) := (blk_cell BK177.out 1).trans rfl
                  have hfz16_0 := blk_frozen BK177.out 0
                  have hfz16_1 := blk_frozen BK177.out 1
                  have p178 : 0 ≤ ((ji9) : Int) := of_decide_eq_true (by first | (with_reducible assumption) | assumption)
                  have q178 : (ji9) < (l0_0.length : Int) := of_decide_eq_true (by first | (with_reducible assumption) | assumption)
                  obtain ⟨ad178, e178, hx178_0⟩ := Kd.at_int HR0_0.out (ji9) p178 q178
                  cases e178
                  replace hx178_0 := (HB.out.cell (World.block_lt_of_cell? w _ hx178_0)).trans hx178_0
                  replace p178 := eq_true p178
                  replace q178 := eq_true q178
                  go_wp2
                  go_ret
                  exact ⟨by first | rfl | (simp [errW_none, errW_some] <;> rfl) | (simp only [← hji9, ← hji12, ← hji14]; first | rfl | (simp [errW_none, errW_some] <;> rfl)) | (simp [*, errW_none, errW_some] <;> rfl), by repeat (first | (with_reducible first | exact HB.out | apply below_alloc | apply pw_below_drewN | apply below_drew1 | refine below_set ?_ GE177.out) | exact HB.out)⟩
                · rw [if_neg c15] at H
                  have c15b0 : ((ji14) == 0) = false := beq_eq_false_iff_ne.mpr c15
                  have c15b1 : ((ji14) != 0) = true := bne_iff_ne.mpr c15
                  obtain rfl := Option.some.inj H
                  have hcz17_0 : wc.cell? ⟨gb177, 0, none⟩ = some (.slice A0_0 l0_0.length c0_0) := (blk_cell BK177.out 0).trans rfl
                  have hcz17_1 : wc.cell? ⟨gb177, 1, none⟩ = some (.int .i64 a0_1) := (blk_cell BK177.out 1).trans rfl
                  have hfz17_0 := blk_frozen BK177.out 0
                  have hfz17_1 := blk_frozen BK177.out 1
                  have p178 : 0 ≤ ((ji9) : Int) := of_decide_eq_true (by first | (with_reducible assumption) | assumption)
                  have q178 : (ji9) < (l0_0.length : Int) := of_decide_eq_true (by first | (with_reducible assumption) | assumption)
                  obtain ⟨ad178, e178, hx178_0⟩ := Kd.at_int HR0_0.out (ji9) p178 q178
                  cases e178
                  replace hx178_0 := (HB.out.cell (World.block_lt_of_cell? w _ hx178_0)).trans hx178_0
                  replace p178 := eq_true p178
                  replace q178 := eq_true q178
                  go_wp2
                  go_ret
                  exact ⟨by first | rfl | (simp [errW_none, errW_some] <;> rfl) | (simp only [← hji9, ← hji12, ← hji14]; first | rfl | (simp [errW_none, errW_some] <;> rfl)) | (simp [*, errW_none, errW_some] <;> rfl), by repeat (first | (with_reducible first | exact HB.out | apply below_alloc | apply pw_below_drewN | apply below_drew1 | refine below_set ?_ GE177.out) | exact HB.out)⟩
              · rw [if_neg c13] at H
                exact absurd H (by simp)
            · rw [if_neg c11] at H
              exact absurd H (by simp)
          · rw [if_neg c10] at H
            exact absurd H (by simp)
        · rw [if_neg c8] at H
          have c8b0 : decide (0 < (Int.tmod a0_1 8)) = false := decide_eq_false c8
          clear c8
          obtain rfl := Option.some.inj H
          have hcz18_0 : wc.cell? ⟨gb177, 0, none⟩ = some (.slice A0_0 l0_0.length c0_0) := (blk_cell BK177.out 0).trans rfl
          have hcz18_1 : wc.cell? ⟨gb177, 1, none⟩ = some (.int .i64 a0_1) := (blk_cell BK177.out 1).trans rfl
          have hfz18_0 := blk_frozen BK177.out 0
          have hfz18_1 := blk_frozen BK177.out 1
          go_wp2
          go_ret
          exact ⟨by first | rfl | (simp [errW_none, errW_some] <;> rfl) | (simp [*, errW_none, errW_some] <;> rfl), by repeat (first | (with_reducible first | exact HB.out | apply below_alloc | apply pw_below_drewN | apply below_drew1 | refine below_set ?_ GE177.out) | exact HB.out)⟩

/-! ### impl_right: function 45 -/
def impl_right.f (k : Nat) (l0_0 : List Int) (a0_1 : Int) : Option (List Int × Int) := (impl_bitsOk.f k l0_0 a0_1).bind fun t181 => (if t181 = true then (if ([] : List Int).length + l0_0.length < 140737488355328 then (some ((([] : List Int) ++ l0_0), a0_1)) else (none)) else (some (([] : List Int), 0)))
theorem impl_right.mono : ∀ a0 a1 k, LeO (impl_right.f k a0 a1) (impl_right.f (k + 1) a0 a1) := by
  intro a0 a1 k
  unfold impl_right.f
  repeat' first
      | (with_reducible exact impl_bitsOk.mono _ _ _)
      | (with_reducible exact LeO.refl _)
      | (with_reducible exact LeO.none _)
      | (with_reducible refine LeO.ite ?_ ?_)
      | (with_reducible refine LeO.bind ?_ (fun _ => ?_))
      | exact impl_bitsOk.mono _ _ _
      | exact LeO.none _
      | refine LeO.ite ?_ ?_
      | refine LeO.bind ?_ (fun _ => ?_)
set_option maxHeartbeats 8000000 in
set_option maxRecDepth 100000 in
theorem impl_right.calls (k : Nat) (A0_0 : Option Addr) (c0_0 : Nat) (l0_0 : List Int) (a0_1 : Int) (r1 : List Int) (r2 : Int) (w : World) (hr0_0 : Kd.C (Kd.int .u8) w A0_0 l0_0.length l0_0) (hc0_0 : l0_0.length ≤ c0_0) (h : impl_right.f k l0_0 a0_1 = some (r1, r2)) :
    Calls Try.prog 45 #[.agg #[.slice A0_0 l0_0.length c0_0, .int .i64 a0_1]] w fun e w' => ∃ v0_ : Value, e = .returned (.agg #[v0_, .int .i64 r2]) ∧ Kd.R (Kd.int .u8) 5 w' w.heap.size (fun _ => True) v0_ r1 ∧ Below w.heap.size w w' := by
  have hu27 := Try.underlying27
  have HR0_0 := Aside0.mk hr0_0
  have HC0_0 := Aside0.mk hc0_0
  clear hr0_0 hc0_0
  have HB := Aside0.mk (Below.refl w.heap.size w)
  have H : ((impl_bitsOk.f k l0_0 a0_1).bind fun t181 => (if t181 = true then (if ([] : List Int).length + l0_0.length < 140737488355328 then (some ((([] : List Int) ++ l0_0), a0_1)) else (none)) else (some (([] : List Int), 0)))) = some (r1, r2) := h
  clear h
  replace H := Option.bind_eq_some_iff.mp H
  obtain ⟨t181, A20, H⟩ := H
  replace H : (if t181 = true then (if ([] : List Int).length + l0_0.length < 140737488355328 then (some ((([] : List Int) ++ l0_0), a0_1)) else (none)) else (some (([] : List Int), 0))) = some (r1, r2) := H
  have A2 := Aside0.mk A20
  clear A20
  by_cases c3 : t181 = true
  · subst c3
    have H1 : (if ([] : List Int).length + l0_0.length < 140737488355328 then (some ((([] : List Int) ++ l0_0), a0_1)) else (none)) = some (r1, r2) := by rw [if_pos rfl] at H; exact H
    clear H
    have H := H1
    clear H1
    by_cases c4 : ([] : List Int).length + l0_0.length < 140737488355328
    · rw [if_pos c4] at H
      have LMc4 := Aside0.mk c4
      clear c4
      obtain ⟨y182, hy182⟩ : ∃ y_ : List Int, y_ = (([] : List Int) ++ l0_0) := ⟨_, rfl⟩
      replace H : (some (y182, a0_1)) = some (r1, r2) := by first | (rw [hy182]; with_reducible exact H) | (have H2_ := (Option.bind_some _ _).symm.trans H; rw [hy182]; with_reducible exact H2_) | (have H2_ := (Option.bind_some _ _).symm.trans H; with_reducible exact H2_) | with_reducible exact H | (rw [hy182]; exact H) | exact H
      have Ny182 := Aside0.mk hy182
      clear hy182
      simp only [Option.some.injEq, Prod.mk.injEq] at H
      obtain ⟨rfl, rfl⟩ := H
      go_enter Try.func45, Try.ntmps45
      try go_wp2_with (first | ((with_reducible refine gate_dst (N := 1) rfl ?_); refine box_event ?hg (N := 1) ?hd (cs := #[.slice A0_0 l0_0.length c0_0, .int .i64 a0_1]) (t := 27) ?hr ?_; (case hd => rfl); (case hg => rfl); (case hr => first | (go_simp; done) | (go_simp; rfl)); intro gb179 hg w5 hbox hb; have n0_ := Aside0.mk (below_step (by repeat (first | (with_reducible first | exact HB.out | apply below_alloc | apply pw_below_drewN | apply below_drew1) | exact HB.out)) hb); have n1_ := Aside0.mk (hbox); have n2_ := Aside0.mk ((by rw [hg]; exact (below_size (by repeat (first | (with_reducible first | exact HB.out | apply below_alloc | apply pw_below_drewN | apply below_drew1) | exact HB.out))) : w.heap.size ≤ gb179)); have n3_ := Aside0.mk ((by rw [hg]; exact (below_size (by repeat (first | (with_reducible first | exact HB.out | apply below_alloc | apply pw_below_drewN | apply below_drew1) | exact HB.out))) : w.heap.size ≤ gb179)); clear HB; have HB := n0_; have BK179 := n1_; have GW179 := n2_; have GE179 := n3_; clear n0_ n1_ n2_ n3_; clear hb hbox hg) | ((with_reducible refine gate_dst (N := 2) rfl ?_); refine box_event ?hg (N := 2) ?hd (cs := #[.slice none 0 0, .int .i64 0]) (t := 27) ?hr ?_; (case hd => rfl); (case hg => rfl); (case hr => first | (go_simp; done) | (go_simp; rfl)); intro gb180 hg w6 hbox hb; have n0_ := Aside0.mk (blk_below (g := gb179) (o := .cells #[.slice A0_0 l0_0.length c0_0, .int .i64 a0_1] 27 (0, 0)) (by (with_reducible repeat (first | refine blk_drewN ?_ _ | refine blk_drew ?_ | refine blk_alloc ?_ _)); exact BK179.out) hb); have n1_ := Aside0.mk (below_step (by repeat (first | (with_reducible first | exact HB.out | apply below_alloc | apply pw_below_drewN | apply below_drew1 | refine below_set ?_ GE179.out) | exact HB.out)) hb); have n2_ := Aside0.mk (hbox); have n3_ := Aside0.mk ((by rw [hg]; exact (below_size (by repeat (first | (with_reducible first | exact HB.out | apply below_alloc | apply pw_below_drewN | apply below_drew1 | refine below_set ?_ GE179.out) | exact HB.out))) : w.heap.size ≤ gb180)); have n4_ := Aside0.mk ((by rw [hg]; exact (below_size (by repeat (first | (with_reducible first | exact HB.out | apply below_alloc | apply pw_below_drewN | apply below_drew1 | refine below_set ?_ GE179.out) | exact HB.out))) : w.heap.size ≤ gb180)); have n5_ := Aside0.mk ((by rw [hg]; exact Nat.ne_of_lt (blk_lt (g := gb179) (o := .cells #[.slice A0_0 l0_0.length c0_0, .int .i64 a0_1] 27 (0, 0)) (by (with_reducible repeat (first | refine blk_drewN ?_ _ | refine blk_drew ?_ | refine blk_alloc ?_ _)); exact BK179.out)) : gb179 ≠ gb180)); have n6_ := Aside0.mk ((by rw [hg]; exact Nat.ne_of_gt (blk_lt (g := gb179) (o := .cells #[.slice A0_0 l0_0.length c0_0, .int .i64 a0_1] 27 (0, 0)) (by (with_reducible repeat (first | refine blk_drewN ?_ _ | refine blk_drew ?_ | refine blk_alloc ?_ _)); exact BK179.out)) : gb180 ≠ gb179)); clear BK179; clear HB; have BK179 := n0_; have HB := n1_; have BK180 := n2_; have GW180 := n3_; have GE180 := n4_; have NB179_180 := n5_; have NB180_179 := n6_; clear n0_ n1_ n2_ n3_ n4_ n5_ n6_; clear hb hbox hg; have hnb7 := NB179_180.out; have hnc7 := NB180_179.out; have hcz8_0 : w6.cell? ⟨gb179, 0, none⟩ = some (.slice A0_0 l0_0.length c0_0) := (blk_cell BK179.out 0).trans rfl; have hcz8_1 : w6.cell? ⟨gb179, 1, none⟩ = some (.int .i64 a0_1) := (blk_cell BK179.out 1).trans rfl; have hfz8_0 := blk_frozen BK179.out 0; have hfz8_1 := blk_frozen BK179.out 1) | ((with_reducible refine gate_callee (f := 78) rfl ?_); refine goesL_ (some 4) rfl rfl Try.func78 (by kernel_rfl) rfl #[.agg #[.slice A0_0 l0_0.length c0_0, .int .i64 a0_1]] rfl (by (try simp only [List.map_toArray, List.map_cons, List.map_nil]); first | done | rfl | (simp only [List.length_drop, List.length_take]; rfl)) ?_; (with_reducible refine (impl_bitsOk.calls k _ _ l0_0 a0_1 true _ ?side1 ?side2 A2.out).mono ?_); (case side1 => repeat (first | exact (Kd.C_below HR0_0.out HB.out) | (with_reducible refine Kd.C_alloc ?_ _) | (with_reducible refine Kd.C_drewN ?_ _) | (with_reducible refine Kd.C_drew ?_))); (case side2 => exact HC0_0.out); rintro e w9 ⟨rfl, hb⟩; refine ⟨_, rfl, ?_⟩; have n0_ := Aside0.mk (blk_below (g := gb179) (o := .cells #[.slice A0_0 l0_0.length c0_0, .int .i64 a0_1] 27 (0, 0)) (by (with_reducible repeat (first | refine blk_drewN ?_ _ | refine blk_drew ?_ | refine blk_alloc ?_ _)); exact BK179.out) hb); have n1_ := Aside0.mk (blk_below (g := gb180) (o := .cells #[.slice none 0 0, .int .i64 0] 27 (0, 0)) (by (with_reducible repeat (first | refine blk_drewN ?_ _ | refine blk_drew ?_ | refine blk_alloc ?_ _)); exact BK180.out) hb); have n2_ := Aside0.mk (below_step (by repeat (first | (with_reducible first | exact HB.out | apply below_alloc | apply pw_below_drewN | apply below_drew1 | refine below_set ?_ GE179.out | refine below_set ?_ GE180.out) | exact HB.out)) hb); clear BK179; clear BK180; clear HB; have BK179 := n0_; have BK180 := n1_; have HB := n2_; clear n0_ n1_ n2_; (try clear hb); (try clear hb2); (try clear hk); (try clear hi)))
      have n0_ := Aside0.mk (blk_drew BK179.out)
      have n1_ := Aside0.mk (blk_drew BK180.out)
      have n2_ := Aside0.mk (below_drew1 HB.out)
      clear BK179
      clear BK180
      clear HB
      have BK179 := n0_
      have BK180 := n1_
      have HB := n2_
      clear n0_ n1_ n2_
      refine start_ (n := 7) (S := fun w' => w'.cell? ⟨gb179, 0, none⟩ = some (.slice A0_0 l0_0.length c0_0) ∧ w'.cell? ⟨gb179, 1, none⟩ = some (.int .i64 a0_1)) (ds := []) #[false, false, false, false, false, false, false] (by kernel_rfl) rfl rfl ⟨(blk_cell BK179.out 0).trans rfl, (blk_cell BK179.out 1).trans rfl⟩ (fun hHeld => ?_)
      generalize w9.drew = w10 at BK179 BK180 HB hHeld ⊢
      refine pure_ (i := 0) (N := some 7) (v := ?_) (a' := ?_) #[true, false, false, false, false, false, false] rfl rfl (by kernel_rfl) (fun _ _ _ h => h) (Or.inl ⟨by rfl, ?_⟩) ?_ ?_
      rotate_left
      · intro w'
        go_simp
        with_reducible rfl
      rotate_left
      · simp only [Act.put, List.setIfInBounds_toArray, List.set_cons_zero, List.set_cons_succ, i64_w, i32_w]
        rfl
      refine pure_ (i := 3) (N := some 10) (v := ?_) (a' := ?_) #[true, false, false, true, false, false, false] rfl rfl (by kernel_rfl) (fun _ _ _ h => h) (Or.inl ⟨by rfl, ?_⟩) ?_ ?_
      rotate_left
      · intro w'
        go_simp
        with_reducible rfl
      rotate_left
      · simp only [Act.put, List.setIfInBounds_toArray, List.set_cons_zero, List.set_cons_succ, i64_w, i32_w]
        rfl
      refine take_ (i := 1) (N := some 8) (v := ?_) (a' := ?_) #[true, true, false, true, false, false, false] rfl rfl (by kernel_rfl) (fun _ _ _ h => h) (Or.inl ⟨by rfl, ?_⟩) hHeld ?_ ?_
      rotate_left
      · rintro w' ⟨s0, s1⟩
        go_simp
        with_reducible rfl
      rotate_left
      · simp only [Act.put, List.setIfInBounds_toArray, List.set_cons_zero, List.set_cons_succ, i64_w, i32_w]
        rfl
      refine take_ (i := 4) (N := some 11) (v := ?_) (a' := ?_) #[true, true, false, true, true, false, false] rfl rfl (by kernel_rfl) (fun _ _ _ h => h) (Or.inl ⟨by rfl, ?_⟩) hHeld ?_ ?_
      rotate_left
      · rintro w' ⟨s0, s1⟩
        go_simp
        with_reducible rfl
      rotate_left
      · simp only [Act.put, List.setIfInBounds_toArray, List.set_cons_zero, List.set_cons_succ, i64_w, i32_w]
        rfl
      refine one_ (i := 2) (N := some 9) #[true, true, true, true, true, false, false] rfl rfl (by kernel_rfl) (by decide) (fun K hK => ?_)
      refine Kd.R_append_rows_step (Kd.int .u8) (w0 := w) w.heap.size rfl (.const (.slice none 0 0)) (.tmp 8) 22 5 (.int .u8 0) 1 rfl Try.underlying22 info5 rfl (by decide) (by omega) (.slice none 0 0) ([] : List Int) l0_0 _ _ _ (fun _ => True) (fun _ => False) rfl rfl ?aO ?aR (fun _ _ h => h) (fun _ h => h.elim) ?aF ?aB ?aS ?aL ?_
      (case aR => repeat (first | exact (Kd.C_below HR0_0.out HB.out) | (with_reducible refine Kd.C_alloc ?_ _) | (with_reducible refine Kd.C_drewN ?_ _) | (with_reducible refine Kd.C_drew ?_)))
      (case aB => exact (by repeat (first | (with_reducible first | exact HB.out | apply below_alloc | apply pw_below_drewN | apply below_drew1 | refine below_set ?_ GE179.out | refine below_set ?_ GE180.out) | exact HB.out)))
      (case aF => exact (fun _ _ => trivial))
      (case aO => exact ((Kd.R_nil _ _ _ _ (fun _ => True))))
      (case aS => exact (below_size (by repeat (first | (with_reducible first | exact HB.out | apply below_alloc | apply pw_below_drewN | apply below_drew1 | refine below_set ?_ GE179.out | refine below_set ?_ GE180.out) | exact HB.out))))
      (case aL => have := LMc4.out; omega)
      intro v183 w11 ho hb hg hat
      rw [← Ny182.out] at ho
      have n0_ := Aside0.mk (blk_grown (g := gb179) (o := .cells #[.slice A0_0 l0_0.length c0_0, .int .i64 a0_1] 27 (0, 0)) (by (with_reducible repeat (first | refine blk_drewN ?_ _ | refine blk_drew ?_ | refine blk_alloc ?_ _)); exact BK179.out) hg (by simp [Value.ownBlock]))
      have n1_ := Aside0.mk (blk_grown (g := gb180) (o := .cells #[.slice none 0 0, .int .i64 0] 27 (0, 0)) (by (with_reducible repeat (first | refine blk_drewN ?_ _ | refine blk_drew ?_ | refine blk_alloc ?_ _)); exact BK180.out) hg (by simp [Value.ownBlock]))
      have n2_ := Aside0.mk (hb)
      have n3_ := Aside0.mk (ho)
      clear BK179
      clear BK180
      clear HB
      have BK179 := n0_
      have BK180 := n1_
      have HB := n2_
      have HO184 := n3_
      clear n0_ n1_ n2_ n3_
      clear ho hb hg hat
      obtain ⟨Ao12, co12, eo12⟩ := Kd.R_slice HO184.out
      (first | subst eo12 | (injection eo12 with f1_ f2_ f3_; have f4_ := f1_.symm; have f5_ := f3_.symm; clear f1_ f2_ f3_; subst f4_; subst f5_))
      refine hK.out _ _ ⟨(blk_cell BK179.out 0).trans rfl, (blk_cell BK179.out 1).trans rfl⟩ (fun hHeld => ?_)
      clear hK K
      refine norm_ (a' := ?_) ?_ ?_
      rotate_left
      · show Act.put _ (some 9) _ = _
        simp only [Act.put, List.setIfInBounds_toArray, List.set_cons_zero, List.set_cons_succ, i64_w, i32_w]
        rfl
      refine pure_ (i := 5) (N := some 12) (v := ?_) (a' := ?_) #[true, true, true, true, true, true, false] rfl rfl (by kernel_rfl) (fun _ _ _ h => h) (Or.inl ⟨by rfl, ?_⟩) ?_ ?_
      rotate_left
      · intro w'
        go_simp
        with_reducible rfl
      rotate_left
      · simp only [Act.put, List.setIfInBounds_toArray, List.set_cons_zero, List.set_cons_succ, i64_w, i32_w]
        rfl
      refine one_ (i := 6) (N := none) #[true, true, true, true, true, true, true] rfl rfl (by kernel_rfl) (by decide) (fun K hK => ?_)
      have hs13 : w11.cell? ⟨gb180, 0, none⟩ = some (.slice none 0 0) := (blk_cell BK180.out 0).trans rfl
      have hfs13 := blk_frozen BK180.out 0
      have hns13_0 := NB179_180.out
      have hms13_0 := NB180_179.out
      have hs14 : w11.cell? ⟨gb180, 1, none⟩ = some (.int .i64 0) := (blk_cell BK180.out 1).trans rfl
      have hfs14 := blk_frozen BK180.out 1
      have hns14_0 := NB179_180.out
      have hms14_0 := NB180_179.out
      refine skip_ (w1 := ?_) (by rfl) rfl ?_ ?_
      rotate_left
      · go_simp
        rfl
      refine hK.out _ _ ⟨((cell_far (p := ⟨gb180, _, none⟩) NB179_180.out _).trans (((cell_far (p := ⟨gb180, _, none⟩) NB179_180.out _).trans (hHeld.1)))), ((cell_far (p := ⟨gb180, _, none⟩) NB179_180.out _).trans (((cell_far (p := ⟨gb180, _, none⟩) NB179_180.out _).trans (hHeld.2))))⟩ (fun hHeld => ?_)
      clear hK K
      refine done_ (by kernel_rfl) ?_
      try go_wp2
      refine bodyPost_ret (results_cell_row rfl _ _ gb180 27 #[.slice Ao12 y182.length co12, .int .i64 a0_1] (0, 0) _ rfl (by (with_reducible repeat (first | refine blk_drewN ?_ _ | refine blk_drew ?_ | refine blk_alloc ?_ _)); refine blk_put (cs := #[.slice Ao12 y182.length co12, .int .i64 0]) ?_ 1 _ rfl; (with_reducible repeat (first | refine blk_drewN ?_ _ | refine blk_drew ?_ | refine blk_alloc ?_ _)); refine blk_put (cs := #[.slice none 0 0, .int .i64 0]) ?_ 0 _ rfl; (with_reducible repeat (first | refine blk_drewN ?_ _ | refine blk_drew ?_ | refine blk_alloc ?_ _)); exact BK180.out) Try.underlying27 rfl (by kernel_rfl)) rfl ?_
      exact ⟨_, by first | rfl | (simp [errW_none, errW_some] <;> rfl) | (simp [*, errW_none, errW_some] <;> rfl), by (with_reducible repeat (first | apply Kd.R_alloc | apply Kd.R_drewN | apply Kd.R_drew)); exact Kd.R_mono (Kd.R_far (p := ⟨gb180, 1, none⟩) (Kd.R_far (p := ⟨gb180, 0, none⟩) (Kd.R_types HO184.out BK180.out (by decide)) (fun _ hk => hk.2) (.slice Ao12 y182.length co12)) (fun _ hk => hk.2) (.int .i64 a0_1)) (fun _ hk => trivial), by repeat (first | (with_reducible first | exact HB.out | apply below_alloc | apply pw_below_drewN | apply below_drew1 | refine below_set ?_ GE179.out | refine below_set ?_ GE180.out) | exact HB.out)⟩
    · rw [if_neg c4] at H
      exact absurd H (by simp)
  · replace c3 := Bool.eq_false_iff.mpr c3
    subst c3
    have H1 : (some (([] : List Int), 0)) = some (r1, r2) := by rw [if_neg (show ¬ (false = true) by decide)] at H; exact H
    clear H
    have H := H1
    clear H1
    simp only [Option.some.injEq, Prod.mk.injEq] at H
    obtain ⟨rfl, rfl⟩ := H
    go_enter Try.func45, Try.ntmps45
    go_wp2_with (first | ((with_reducible refine gate_dst (N := 1) rfl ?_); refine box_event ?hg (N := 1) ?hd (cs := #[.slice A0_0 l0_0.length c0_0, .int .i64 a0_1]) (t := 27) ?hr ?_; (case hd => rfl); (case hg => rfl); (case hr => first | (go_simp; done) | (go_simp; rfl)); intro gb179 hg w15 hbox hb; have n0_ := Aside0.mk (below_step (by repeat (first | (with_reducible first | exact HB.out | apply below_alloc | apply pw_below_drewN | apply below_drew1) | exact HB.out)) hb); have n1_ := Aside0.mk (hbox); have n2_ := Aside0.mk ((by rw [hg]; exact (below_size (by repeat (first | (with_reducible first | exact HB.out | apply below_alloc | apply pw_below_drewN | apply below_drew1) | exact HB.out))) : w.heap.size ≤ gb179)); have n3_ := Aside0.mk ((by rw [hg]; exact (below_size (by repeat (first | (with_reducible first | exact HB.out | apply below_alloc | apply pw_below_drewN | apply below_drew1) | exact HB.out))) : w.heap.size ≤ gb179)); clear HB; have HB := n0_; have BK179 := n1_; have GW179 := n2_; have GE179 := n3_; clear n0_ n1_ n2_ n3_; clear hb hbox hg) | ((with_reducible refine gate_dst (N := 2) rfl ?_); refine box_event ?hg (N := 2) ?hd (cs := #[.slice none 0 0, .int .i64 0]) (t := 27) ?hr ?_; (case hd => rfl); (case hg => rfl); (case hr => first | (go_simp; done) | (go_simp; rfl)); intro gb180 hg w16 hbox hb; have n0_ := Aside0.mk (blk_below (g := gb179) (o := .cells #[.slice A0_0 l0_0.length c0_0, .int .i64 a0_1] 27 (0, 0)) (by (with_reducible repeat (first | refine blk_drewN ?_ _ | refine blk_drew ?_ | refine blk_alloc ?_ _)); exact BK179.out) hb); have n1_ := Aside0.mk (below_step (by repeat (first | (with_reducible first | exact HB.out | apply below_alloc | apply pw_below_drewN | apply below_drew1 | refine below_set ?_ GE179.out) | exact HB.out)) hb); have n2_ := Aside0.mk (hbox); have n3_ := Aside0.mk ((by rw [hg]; exact (below_size (by repeat (first | (with_reducible first | exact HB.out | apply below_alloc | apply pw_below_drewN | apply below_drew1 | refine below_set ?_ GE179.out) | exact HB.out))) : w.heap.size ≤ gb180)); have n4_ := Aside0.mk ((by rw [hg]; exact (below_size (by repeat (first | (with_reducible first | exact HB.out | apply below_alloc | apply pw_below_drewN | apply below_drew1 | refine below_set ?_ GE179.out) | exact HB.out))) : w.heap.size ≤ gb180)); have n5_ := Aside0.mk ((by rw [hg]; exact Nat.ne_of_lt (blk_lt (g := gb179) (o := .cells #[.slice A0_0 l0_0.length c0_0, .int .i64 a0_1] 27 (0, 0)) (by (with_reducible repeat (first | refine blk_drewN ?_ _ | refine blk_drew ?_ | refine blk_alloc ?_ _)); exact BK179.out)) : gb179 ≠ gb180)); have n6_ := Aside0.mk ((by rw [hg]; exact Nat.ne_of_gt (blk_lt (g := gb179) (o := .cells #[.slice A0_0 l0_0.length c0_0, .int .i64 a0_1] 27 (0, 0)) (by (with_reducible repeat (first | refine blk_drewN ?_ _ | refine blk_drew ?_ | refine blk_alloc ?_ _)); exact BK179.out)) : gb180 ≠ gb179)); clear BK179; clear HB; have BK179 := n0_; have HB := n1_; have BK180 := n2_; have GW180 := n3_; have GE180 := n4_; have NB179_180 := n5_; have NB180_179 := n6_; clear n0_ n1_ n2_ n3_ n4_ n5_ n6_; clear hb hbox hg; have hnb17 := NB179_180.out; have hnc17 := NB180_179.out; have hcz18_0 : w16.cell? ⟨gb179, 0, none⟩ = some (.slice A0_0 l0_0.length c0_0) := (blk_cell BK179.out 0).trans rfl; have hcz18_1 : w16.cell? ⟨gb179, 1, none⟩ = some (.int .i64 a0_1) := (blk_cell BK179.out 1).trans rfl; have hfz18_0 := blk_frozen BK179.out 0; have hfz18_1 := blk_frozen BK179.out 1) | ((with_reducible refine gate_callee (f := 78) rfl ?_); refine goesL_ (some 4) rfl rfl Try.func78 (by kernel_rfl) rfl #[.agg #[.slice A0_0 l0_0.length c0_0, .int .i64 a0_1]] rfl (by (try simp only [List.map_toArray, List.map_cons, List.map_nil]); first | done | rfl | (simp only [List.length_drop, List.length_take]; rfl)) ?_; (with_reducible refine (impl_bitsOk.calls k _ _ l0_0 a0_1 false _ ?side1 ?side2 A2.out).mono ?_); (case side1 => repeat (first | exact (Kd.C_below HR0_0.out HB.out) | (with_reducible refine Kd.C_alloc ?_ _) | (with_reducible refine Kd.C_drewN ?_ _) | (with_reducible refine Kd.C_drew ?_))); (case side2 => exact HC0_0.out); rintro e w19 ⟨rfl, hb⟩; refine ⟨_, rfl, ?_⟩; have n0_ := Aside0.mk (blk_below (g := gb179) (o := .cells #[.slice A0_0 l0_0.length c0_0, .int .i64 a0_1] 27 (0, 0)) (by (with_reducible repeat (first | refine blk_drewN ?_ _ | refine blk_drew ?_ | refine blk_alloc ?_ _)); exact BK179.out) hb); have n1_ := Aside0.mk (blk_below (g := gb180) (o := .cells #[.slice none 0 0, .int .i64 0] 27 (0, 0)) (by (with_reducible repeat (first | refine blk_drewN ?_ _ | refine blk_drew ?_ | refine blk_alloc ?_ _)); exact BK180.out) hb); have n2_ := Aside0.mk (below_step (by repeat (first | (with_reducible first | exact HB.out | apply below_alloc | apply pw_below_drewN | apply below_drew1 | refine below_set ?_ GE179.out | refine below_set ?_ GE180.out) | exact HB.out)) hb); clear BK179; clear BK180; clear HB; have BK179 := n0_; have BK180 := n1_; have HB := n2_; clear n0_ n1_ n2_; (try clear hb); (try clear hb2); (try clear hk); (try clear hi); have hcz20_0 : w19.cell? ⟨gb180, 0, none⟩ = some (.slice none 0 0) := (blk_cell BK180.out 0).trans rfl; have hcz20_1 : w19.cell? ⟨gb180, 1, none⟩ = some (.int .i64 0) := (blk_cell BK180.out 1).trans rfl; have hfz20_0 := blk_frozen BK180.out 0; have hfz20_1 := blk_frozen BK180.out 1))
    refine bodyPost_ret (results_cell_row rfl _ _ gb180 27 #[.slice none 0 0, .int .i64 0] (0, 0) _ rfl (by (with_reducible repeat (first | refine blk_drewN ?_ _ | refine blk_drew ?_ | refine blk_alloc ?_ _)); refine blk_put (cs := #[.slice none 0 0, .int .i64 0]) ?_ 1 _ rfl; (with_reducible repeat (first | refine blk_drewN ?_ _ | refine blk_drew ?_ | refine blk_alloc ?_ _)); refine blk_put (cs := #[.slice none 0 0, .int .i64 0]) ?_ 0 _ rfl; (with_reducible repeat (first | refine blk_drewN ?_ _ | refine blk_drew ?_ | refine blk_alloc ?_ _)); exact BK180.out) Try.underlying27 rfl (by kernel_rfl)) rfl ?_
    exact ⟨_, by first | rfl | (simp [errW_none, errW_some] <;> rfl) | (simp [*, errW_none, errW_some] <;> rfl), by first | exact Kd.R_nil _ _ _ _ _ | exact Kd.N_nil _ _ _ _ _ | exact Kd.V_nil _ _ _ _ _ | exact Kd.Q_nil _ _ _ _ _ | exact Kd.S_nil _ _ _ _ _, by repeat (first | (with_reducible first | exact HB.out | apply below_alloc | apply pw_below_drewN | apply below_drew1 | refine below_set ?_ GE179.out | refine below_set ?_ GE180.out) | exact HB.out)⟩

/-! ### impl_Bits_put: function 47, by hand -/
def impl_Bits_put.at_ (l : List Int) (c a1 i : Int) : Option (List Int) :=
  if 0 ≤ wrap64 (Int.tdiv c 8) then (if wrap64 (Int.tdiv c 8) < (l.length : Int) then (if 0 ≤ i then (if 0 ≤ Int.tmod c 8 then
    some (l.set (wrap64 (Int.tdiv c 8)).toNat (Go.bits .or .u8 (rd l (wrap64 (Int.tdiv c 8))) (Go.bits .and .u64 (shr .u64 a1 i) 1 % 256 * 2 ^ (Int.tmod c 8).toNat % 256)))
    else none) else none) else none) else none
theorem impl_Bits_put.at_of {l : List Int} {c a1 i : Int} {m : List Int} (h : impl_Bits_put.at_ l c a1 i = some m) : 0 ≤ wrap64 (Int.tdiv c 8) ∧ wrap64 (Int.tdiv c 8) < (l.length : Int) ∧ 0 ≤ i ∧ 0 ≤ Int.tmod c 8 ∧
    m = l.set (wrap64 (Int.tdiv c 8)).toNat (Go.bits .or .u8 (rd l (wrap64 (Int.tdiv c 8))) (Go.bits .and .u64 (shr .u64 a1 i) 1 % 256 * 2 ^ (Int.tmod c 8).toNat % 256)) := by
  unfold impl_Bits_put.at_ at h
  by_cases q1 : 0 ≤ wrap64 (Int.tdiv c 8)
  · rw [if_pos q1] at h
    by_cases q2 : wrap64 (Int.tdiv c 8) < (l.length : Int)
    · rw [if_pos q2] at h
      by_cases q3 : 0 ≤ i
      · rw [if_pos q3] at h
        by_cases q4 : 0 ≤ Int.tmod c 8
        · rw [if_pos q4] at h
          exact ⟨q1, q2, q3, q4, (Option.some.inj h).symm⟩
        · rw [if_neg q4] at h
          cases h
      · rw [if_neg q3] at h
        cases h
    · rw [if_neg q2] at h
      cases h
  · rw [if_neg q1] at h
    cases h
def impl_Bits_put.l0 : Nat → Int → Int → Int → List Int → Int → Option (List Int × Int)
  | 0, _, _, _, _, _ => none
  | k + 1, a1, n, i, l, c => if i < n then (if Int.tmod c 8 = 0 then (if l.length < 140737488355328 then (impl_Bits_put.at_ (l ++ [0]) c a1 i).bind fun m => impl_Bits_put.l0 k a1 n (wrap64 (i + 1)) m (wrap64 (c + 1)) else none) else (impl_Bits_put.at_ l c a1 i).bind fun m => impl_Bits_put.l0 k a1 n (wrap64 (i + 1)) m (wrap64 (c + 1))) else some (l, c)
def impl_Bits_put.f (k : Nat) (l : List Int) (c a1 a2 : Int) : Option (List Int × Int) := impl_Bits_put.l0 k a1 a2 0 l c
theorem impl_Bits_put.mono_l : ∀ k, ∀ y0 y1 y2 y3 y4, LeO (impl_Bits_put.l0 k y0 y1 y2 y3 y4) (impl_Bits_put.l0 (k + 1) y0 y1 y2 y3 y4)
  | 0 => fun _ _ _ _ _ r h => by simp [impl_Bits_put.l0] at h
  | k + 1 => fun y0 y1 y2 y3 y4 => by
    have ih0 := impl_Bits_put.mono_l k
    unfold impl_Bits_put.l0
    exact LeO.ite (LeO.ite (LeO.ite (LeO.bind (LeO.refl _) (fun _ => ih0 _ _ _ _ _)) (LeO.none _)) (LeO.bind (LeO.refl _) (fun _ => ih0 _ _ _ _ _))) (LeO.refl _)
theorem impl_Bits_put.mono : ∀ a0 a1 a2 a3 k, LeO (impl_Bits_put.f k a0 a1 a2 a3) (impl_Bits_put.f (k + 1) a0 a1 a2 a3) := fun a0 a1 a2 a3 k => impl_Bits_put.mono_l k _ _ _ _ _
set_option maxHeartbeats 8000000 in
set_option maxRecDepth 100000 in
theorem impl_Bits_put.calls (k : Nat) (g : Nat) (u : Value) (l : List Int) (c a1 a2 : Int) (r1 : List Int) (r2 : Int) (w0 w : World) (P : Nat → Prop) (hB : Below w0.heap.size w0 w) (hg : w0.heap.size ≤ g)
    (hb : w.heap[g]? = some (.cells #[u, .int .i64 c] 27 (0, 0))) (ho : Kd.R (Kd.int .u8) 5 w w0.heap.size P u l) (h : impl_Bits_put.f k l c a1 a2 = some (r1, r2)) :
    Calls Try.prog 47 #[.pointer (some ⟨g, 0, none⟩), .int .u64 a1, .int .i64 a2] w fun e w' => e = .returned (.tuple #[]) ∧ (∃ u', w'.heap[g]? = some (.cells #[u', .int .i64 r2] 27 (0, 0)) ∧ Kd.R (Kd.int .u8) 5 w' w0.heap.size (fun k_ => P k_ ∨ w.heap.size ≤ k_) u' r1) ∧ Below w0.heap.size w0 w' ∧ Kept w w' (fun k_ => P k_ ∨ k_ = g) := by
  have hu27 := Try.underlying27
  have HG := Aside0.mk hg
  have BK := Aside0.mk hb
  have HO := Aside0.mk (show Kd.R (Kd.int .u8) 5 w w0.heap.size (fun k_ => P k_ ∨ w.heap.size ≤ k_) u l from Kd.R_mono ho (fun _ hk => .inl hk))
  have HK := Aside0.mk (Kept.refl w (fun k_ => P k_ ∨ k_ = g))
  have HB := Aside0.mk hB
  have H : impl_Bits_put.l0 k a1 a2 0 l c = some (r1, r2) := h
  have H' := Aside0.mk H
  clear hg hb ho hB h H
  go_enter Try.func47, Try.ntmps47
  go_wp2
  go_loopg [8] k (fun kq v8 w' => ∃ (i : Int) (u : Value) (l : List Int) (c : Int), v8 = .int .i64 i ∧ Aside0 (impl_Bits_put.l0 kq a1 a2 i l c = some (r1, r2)) ∧ Aside0 (kq ≤ k) ∧ Aside0 (w'.heap[g]? = some (.cells #[u, .int .i64 c] 27 (0, 0))) ∧ Aside0 (Kd.R (Kd.int .u8) 5 w' w0.heap.size (fun k_ => P k_ ∨ w.heap.size ≤ k_) u l) ∧ Aside0 (Below w0.heap.size w0 w') ∧ Aside0 (Kept w w' (fun k_ => P k_ ∨ k_ = g)))
  case atStart => exact ⟨0, u, l, c, rfl, H', ⟨Nat.le_refl _⟩, BK, HO, HB, HK⟩
  case round =>
    clear H' BK HO HB HK
    obtain ⟨i, u, l, c, rfl, HA, HK1, BK, HO, HB, HK⟩ := hrel
    cases gk with
    | zero => exact absurd HA.out (by simp [impl_Bits_put.l0])
    | succ k1 =>
      have H := HA.out
      clear HA
      simp only [impl_Bits_put.l0] at H
      by_cases c4 : i < a2
      · rw [if_pos c4] at H
        have c4b0 : decide (i < a2) = true := decide_eq_true c4
        clear c4
        by_cases c5 : Int.tmod c 8 = 0
        · rw [if_pos c5] at H
          have c5b0 : (Int.tmod c 8 == 0) = true := beq_iff_eq.mpr c5
          clear c5
          by_cases c6 : l.length < 140737488355328
          · rw [if_pos c6] at H
            have LM := Aside0.mk c6
            clear c6
            obtain ⟨m, A1, H⟩ := Option.bind_eq_some_iff.mp H
            have H' := Aside0.mk H
            clear H
            obtain ⟨y, hy⟩ : ∃ y_ : List Int, y_ = (l ++ [0]) := ⟨_, rfl⟩
            rw [← hy] at A1
            have Ny := Aside0.mk hy
            clear hy
            replace A1 := Aside0.mk A1
            obtain ⟨Ao, co, eo⟩ := Kd.R_slice HO.out
            subst eo
            have h0 : wr.cell? ⟨g, 0, none⟩ = some (.slice Ao l.length co) := (blk_cell BK.out 0).trans rfl
            have h1 : wr.cell? ⟨g, 1, none⟩ = some (.int .i64 c) := (blk_cell BK.out 1).trans rfl
            have hf0 := blk_frozen BK.out 0
            have hf1 := blk_frozen BK.out 1
            go_wp2_with (first | ((with_reducible refine gate_builtin (b := .append) (xs := #[.tmp 21, .tmp 22]) rfl ?_); at_builtin; refine Kd.R_append (Kd.int .u8) (w0 := w0) w0.heap.size rfl (.tmp 21) (.tmp 22) 22 5 (.int .u8 0) 1 rfl Try.underlying22 info5 rfl (by decide) (by omega) (.slice Ao l.length co) l 0 [.int .u8 0] (fun k_ => P k_ ∨ w.heap.size ≤ k_) (fun _ => False) rfl rfl ?aP (fun _ hk => hk.elim) ?aF ?aO ?aB ?aS ?aL ?_; (case aP => exact rfl); (case aB => exact HB.out); (case aF => exact (fun k_ hk => .inr (Nat.le_trans HK.out.1 hk))); (case aO => exact HO.out); (case aS => exact (below_size HB.out)); (case aL => have := LM.out; omega); intro v1 w1 ho hb hg1 hat; rw [← Ny.out] at ho; have n0_ := Aside0.mk (blk_grown (g := g) (o := .cells #[.slice Ao l.length co, .int .i64 c] 27 (0, 0)) BK.out hg1 (Kd.R_ne HO.out BK.out (by decide))); have n2_ := Aside0.mk (hb); have n4_ := Aside0.mk (ho); have n5_ := Aside0.mk (Kept.of_grown hg1 HK.out (fun k_ e_ => (HO.out.1 k_ e_).elim (fun h_ => .inl (.inl h_)) .inr)); clear HK; have HK := n5_; clear n5_; clear BK; clear HB; clear HO h0 h1 hf0 hf1; have BK := n0_; have HB := n2_; have HO := n4_; clear n0_ n2_ n4_; clear ho hb hg1 hat; obtain ⟨Ao1, co1, eo1⟩ := Kd.R_slice HO.out; subst eo1; have h0 : w1.cell? ⟨g, 0, none⟩ = some (.slice Ao l.length co) := (blk_cell BK.out 0).trans rfl; have h1 : w1.cell? ⟨g, 1, none⟩ = some (.int .i64 c) := (blk_cell BK.out 1).trans rfl; have hf0 := blk_frozen BK.out 0; have hf1 := blk_frozen BK.out 1))
            have n0_ : Aside0 (Kd.R (Kd.int .u8) 5 (w1.setCell ⟨g, 0, none⟩ (.slice Ao1 y.length co1)) w0.heap.size (fun k_ => P k_ ∨ w.heap.size ≤ k_) (.slice Ao1 y.length co1) y) := ⟨Kd.R_mono (Kd.R_far (p := ⟨g, 0, none⟩) (Kd.R_types HO.out BK.out (by decide)) (fun _ hk => hk.2) (.slice Ao1 y.length co1)) (fun _ hk => hk.1)⟩
            have n1_ : Aside0 ((w1.setCell ⟨g, 0, none⟩ (.slice Ao1 y.length co1)).heap[g]? = some (.cells #[.slice Ao1 y.length co1, .int .i64 c] 27 (0, 0))) := ⟨blk_put (cs := #[.slice Ao l.length co, .int .i64 c]) BK.out 0 _ rfl⟩
            have n2_ : Aside0 (Below w0.heap.size w0 (w1.setCell ⟨g, 0, none⟩ (.slice Ao1 y.length co1))) := ⟨below_set HB.out HG.out⟩
            have n3_ : Aside0 (Kept w (w1.setCell ⟨g, 0, none⟩ (.slice Ao1 y.length co1)) (fun k_ => P k_ ∨ k_ = g)) := ⟨Kept.setCell HK.out (.inl (.inr rfl)) _⟩
            clear BK HO HB HK h0 h1 hf0 hf1
            generalize (w1.setCell ⟨g, 0, none⟩ (.slice Ao1 y.length co1)) = w2 at n0_ n1_ n2_ n3_ ⊢
            have HK := n3_
            clear n3_
            have HO := n0_
            have BK := n1_
            have HB := n2_
            clear n0_ n1_ n2_
            obtain ⟨q1, q2, q3, q4, hm⟩ := impl_Bits_put.at_of A1.out
            clear A1
            obtain ⟨j, hj⟩ : ∃ j_ : Int, wrap64 (Int.tdiv c 8) = j_ := ⟨_, rfl⟩
            rw [hj] at q1 q2 hm
            obtain ⟨j2, hj2⟩ : ∃ j_ : Int, Int.tmod c 8 = j_ := ⟨_, rfl⟩
            have hmin : min j2.toNat 8 = j2.toNat := by have := Int.tmod_lt_of_pos c (show (0 : Int) < 8 by decide); omega
            rw [hj2] at q4 hm
            obtain ⟨j3, hj3⟩ : ∃ j_ : Int, shr .u64 a1 i = j_ := ⟨_, rfl⟩
            rw [hj3] at hm
            have Nm := Aside0.mk hm
            clear hm
            have hjw : (IntKind.i64.wrap (Int.tdiv c 8)) = j := (i64_w _).trans hj
            have hj3_ : (a1 / 2 ^ min i.toNat 64) = j3 := hj3
            have hj3z : i ≤ 64 → (a1 / 2 ^ i.toNat) = j3 := shr_small hj3
            have hqn : 0 < y.length := by omega
            obtain ⟨go, co', eo, gb, gl, cl, HGo⟩ := Kd.R_form HO.out hqn
            cases eo
            obtain ⟨hx, hf⟩ := Kd.R_celln 0 HO.out j q1 q2
            have HP := Aside0.mk (Kd.R_putn HO.out j (Go.bits .or .u8 (rd y j) (Go.bits .and .u64 j3 1 % 256 * 2 ^ j2.toNat % 256)))
            have h0 : w2.cell? ⟨g, 0, none⟩ = some (.slice (some ⟨go, 0, none⟩) y.length co1) := (blk_cell BK.out 0).trans rfl
            have h1 : w2.cell? ⟨g, 1, none⟩ = some (.int .i64 c) := (blk_cell BK.out 1).trans rfl
            have q1b : decide (0 ≤ j) = true := decide_eq_true q1
            have q2b : decide (j < (y.length : Int)) = true := decide_eq_true q2
            have q3b : decide (0 ≤ i) = true := decide_eq_true q3
            have q4b : decide (0 ≤ j2) = true := decide_eq_true q4
            replace q1 := eq_true q1
            replace q2 := eq_true q2
            replace q3 := eq_true q3
            replace q4 := eq_true q4
            have HG1 := Aside0.mk gl
            skip
            have HG3 := Aside0.mk HGo
            clear hqn gl HGo hj hj3
            go_still_tail 23, (by kernel_rfl)
            change wpList _ _ _ _ _ w2.drew
            have n0_ := Aside0.mk (blk_drew BK.out)
            have n1_ : Aside0 (Kd.R (Kd.int .u8) 5 (w2.drew.setCell ⟨go, j.toNat, none⟩ (.int .u8 (Go.bits .or .u8 (rd y j) (Go.bits .and .u64 j3 1 % 256 * 2 ^ j2.toNat % 256)))) w0.heap.size (fun k_ => P k_ ∨ w.heap.size ≤ k_) (.slice (some ⟨go, 0, none⟩) y.length co1) (y.set j.toNat (Go.bits .or .u8 (rd y j) (Go.bits .and .u64 j3 1 % 256 * 2 ^ j2.toNat % 256)))) := ⟨Kd.R_putn (Kd.R_drew HO.out) j _⟩
            have n2_ := Aside0.mk (below_drew1 HB.out)
            have hx1 : w2.drew.cell? ⟨go, j.toNat, none⟩ = some (.int .u8 (rd y j)) := hx
            have hf1 : w2.drew.frozen? ⟨go, j.toNat, none⟩ = false := hf
            have hne : g ≠ go := blk_ne BK.out HG3.out (by decide)
            have n3_ := Aside0.mk (Kept.drew HK.out)
            have hgo := Aside0.mk (HO.out.1 go rfl)
            clear BK HO HB HP HK h0 h1 hx hf HG1 HG3
            generalize w2.drew = w3 at n0_ n1_ n2_ n3_ hx1 hf1 ⊢
            have HK := n3_
            clear n3_
            have HNE := Aside0.mk hne
            clear hne
            have BK := n0_
            have HP := n1_
            have HB := n2_
            clear n0_ n1_ n2_
            have h1 : ∀ v : Value, (w3.setCell ⟨go, j.toNat, none⟩ v).cell? ⟨g, 1, none⟩ = some (.int .i64 c) := fun v => (blk_cell (blk_far BK.out HNE.out v) 1).trans rfl
            have hf2 : ∀ v : Value, (w3.setCell ⟨go, j.toNat, none⟩ v).frozen? ⟨g, 1, none⟩ = false := fun v => blk_frozen (blk_far BK.out (p := ⟨go, j.toNat, none⟩) HNE.out v) 1
            go_wp2
            go_roundg k1
            case measure => have := HK1.out; omega
            case rel => exact ⟨wrap64 (i + 1), .slice (some ⟨go, 0, none⟩) y.length co1, m, wrap64 (c + 1), rfl, H', ⟨by have := HK1.out; omega⟩, ⟨blk_put (cs := #[.slice (some ⟨go, 0, none⟩) y.length co1, .int .i64 c]) (blk_far BK.out HNE.out _) 1 _ rfl⟩, ⟨by rw [Nm.out]; exact Kd.R_mono (Kd.R_far (p := ⟨g, 1, none⟩) (Kd.R_types HP.out (blk_far BK.out HNE.out _) (by decide)) (fun _ hk => hk.2) _) (fun _ hk => hk.1)⟩, ⟨below_set (below_set HB.out gb) HG.out⟩, ⟨Kept.setCell (Kept.setCell HK.out (hgo.out.elim (fun h_ => .inl (.inl h_)) .inr) _) (.inl (.inr rfl)) _⟩⟩
          · rw [if_neg c6] at H
            exact absurd H (by simp)
        · rw [if_neg c5] at H
          have c5b0 : (Int.tmod c 8 == 0) = false := beq_eq_false_iff_ne.mpr c5
          clear c5
          obtain ⟨m, A1, H⟩ := Option.bind_eq_some_iff.mp H
          have H' := Aside0.mk H
          clear H
          replace A1 := Aside0.mk A1
          obtain ⟨Ao, co, eo⟩ := Kd.R_slice HO.out
          subst eo
          have h0 : wr.cell? ⟨g, 0, none⟩ = some (.slice Ao l.length co) := (blk_cell BK.out 0).trans rfl
          have h1 : wr.cell? ⟨g, 1, none⟩ = some (.int .i64 c) := (blk_cell BK.out 1).trans rfl
          go_wp2
          clear h0 h1
          obtain ⟨q1, q2, q3, q4, hm⟩ := impl_Bits_put.at_of A1.out
          clear A1
          obtain ⟨j, hj⟩ : ∃ j_ : Int, wrap64 (Int.tdiv c 8) = j_ := ⟨_, rfl⟩
          rw [hj] at q1 q2 hm
          obtain ⟨j2, hj2⟩ : ∃ j_ : Int, Int.tmod c 8 = j_ := ⟨_, rfl⟩
          have hmin : min j2.toNat 8 = j2.toNat := by have := Int.tmod_lt_of_pos c (show (0 : Int) < 8 by decide); omega
          rw [hj2] at q4 hm
          obtain ⟨j3, hj3⟩ : ∃ j_ : Int, shr .u64 a1 i = j_ := ⟨_, rfl⟩
          rw [hj3] at hm
          have Nm := Aside0.mk hm
          clear hm
          have hjw : (IntKind.i64.wrap (Int.tdiv c 8)) = j := (i64_w _).trans hj
          have hj3_ : (a1 / 2 ^ min i.toNat 64) = j3 := hj3
          have hj3z : i ≤ 64 → (a1 / 2 ^ i.toNat) = j3 := shr_small hj3
          have hqn : 0 < l.length := by omega
          obtain ⟨go, co', eo, gb, gl, cl, HGo⟩ := Kd.R_form HO.out hqn
          cases eo
          obtain ⟨hx, hf⟩ := Kd.R_celln 0 HO.out j q1 q2
          have HP := Aside0.mk (Kd.R_putn HO.out j (Go.bits .or .u8 (rd l j) (Go.bits .and .u64 j3 1 % 256 * 2 ^ j2.toNat % 256)))
          have h0 : wr.cell? ⟨g, 0, none⟩ = some (.slice (some ⟨go, 0, none⟩) l.length co) := (blk_cell BK.out 0).trans rfl
          have h1 : wr.cell? ⟨g, 1, none⟩ = some (.int .i64 c) := (blk_cell BK.out 1).trans rfl
          have q1b : decide (0 ≤ j) = true := decide_eq_true q1
          have q2b : decide (j < (l.length : Int)) = true := decide_eq_true q2
          have q3b : decide (0 ≤ i) = true := decide_eq_true q3
          have q4b : decide (0 ≤ j2) = true := decide_eq_true q4
          replace q1 := eq_true q1
          replace q2 := eq_true q2
          replace q3 := eq_true q3
          replace q4 := eq_true q4
          have HG1 := Aside0.mk gl
          skip
          have HG3 := Aside0.mk HGo
          clear hqn gl HGo hj hj3
          go_still_tail 23, (by kernel_rfl)
          change wpList _ _ _ _ _ wr.drew
          have n0_ := Aside0.mk (blk_drew BK.out)
          have n1_ : Aside0 (Kd.R (Kd.int .u8) 5 (wr.drew.setCell ⟨go, j.toNat, none⟩ (.int .u8 (Go.bits .or .u8 (rd l j) (Go.bits .and .u64 j3 1 % 256 * 2 ^ j2.toNat % 256)))) w0.heap.size (fun k_ => P k_ ∨ w.heap.size ≤ k_) (.slice (some ⟨go, 0, none⟩) l.length co) (l.set j.toNat (Go.bits .or .u8 (rd l j) (Go.bits .and .u64 j3 1 % 256 * 2 ^ j2.toNat % 256)))) := ⟨Kd.R_putn (Kd.R_drew HO.out) j _⟩
          have n2_ := Aside0.mk (below_drew1 HB.out)
          have hx1 : wr.drew.cell? ⟨go, j.toNat, none⟩ = some (.int .u8 (rd l j)) := hx
          have hf1 : wr.drew.frozen? ⟨go, j.toNat, none⟩ = false := hf
          have hne : g ≠ go := blk_ne BK.out HG3.out (by decide)
          have n3_ := Aside0.mk (Kept.drew HK.out)
          have hgo := Aside0.mk (HO.out.1 go rfl)
          clear BK HO HB HP HK h0 h1 hx hf HG1 HG3
          generalize wr.drew = w3 at n0_ n1_ n2_ n3_ hx1 hf1 ⊢
          have HK := n3_
          clear n3_
          have HNE := Aside0.mk hne
          clear hne
          have BK := n0_
          have HP := n1_
          have HB := n2_
          clear n0_ n1_ n2_
          have h1 : ∀ v : Value, (w3.setCell ⟨go, j.toNat, none⟩ v).cell? ⟨g, 1, none⟩ = some (.int .i64 c) := fun v => (blk_cell (blk_far BK.out HNE.out v) 1).trans rfl
          have hf2 : ∀ v : Value, (w3.setCell ⟨go, j.toNat, none⟩ v).frozen? ⟨g, 1, none⟩ = false := fun v => blk_frozen (blk_far BK.out (p := ⟨go, j.toNat, none⟩) HNE.out v) 1
          go_wp2
          go_roundg k1
          case measure => have := HK1.out; omega
          case rel => exact ⟨wrap64 (i + 1), .slice (some ⟨go, 0, none⟩) l.length co, m, wrap64 (c + 1), rfl, H', ⟨by have := HK1.out; omega⟩, ⟨blk_put (cs := #[.slice (some ⟨go, 0, none⟩) l.length co, .int .i64 c]) (blk_far BK.out HNE.out _) 1 _ rfl⟩, ⟨by rw [Nm.out]; exact Kd.R_mono (Kd.R_far (p := ⟨g, 1, none⟩) (Kd.R_types HP.out (blk_far BK.out HNE.out _) (by decide)) (fun _ hk => hk.2) _) (fun _ hk => hk.1)⟩, ⟨below_set (below_set HB.out gb) HG.out⟩, ⟨Kept.setCell (Kept.setCell HK.out (hgo.out.elim (fun h_ => .inl (.inl h_)) .inr) _) (.inl (.inr rfl)) _⟩⟩
      · rw [if_neg c4] at H
        have c4b0 : decide (i < a2) = false := decide_eq_false c4
        clear c4
        simp only [Option.some.injEq, Prod.mk.injEq] at H
        obtain ⟨rfl, rfl⟩ := H
        go_wp2
        go_end0
        exact ⟨rfl, ⟨u, BK.out, HO.out⟩, HB.out, HK.out⟩

/-! ### impl_Bits_putVar: function 51, by hand -/
def impl_Bits_putVar.l0 : Nat → Int → Int → List Int → Int → Option (List Int × Int)
  | 0, _, _, _, _ => none
  | k + 1, v, n, l, c => if v / 2 ^ (n.toNat - 1) = 0 then impl_Bits_put.f k l c (Go.bits .and .u64 v (IntKind.u64.wrap (IntKind.u64.wrap (2 ^ (n.toNat - 1)) - 1))) n else (impl_Bits_put.f k l c (Go.bits .or .u64 (Go.bits .and .u64 v (IntKind.u64.wrap (IntKind.u64.wrap (2 ^ (n.toNat - 1)) - 1))) (IntKind.u64.wrap (2 ^ (n.toNat - 1)))) n).bind fun t => impl_Bits_putVar.l0 k (v / 2 ^ (n.toNat - 1)) n t.1 t.2
def impl_Bits_putVar.f (k : Nat) (l : List Int) (c a1 a2 : Int) : Option (List Int × Int) := impl_Bits_putVar.l0 k a1 a2 l c
theorem impl_Bits_putVar.mono_l : ∀ k, ∀ y0 y1 y2 y3, LeO (impl_Bits_putVar.l0 k y0 y1 y2 y3) (impl_Bits_putVar.l0 (k + 1) y0 y1 y2 y3)
  | 0 => fun _ _ _ _ r h => by simp [impl_Bits_putVar.l0] at h
  | k + 1 => fun y0 y1 y2 y3 => by
    have ih0 := impl_Bits_putVar.mono_l k
    unfold impl_Bits_putVar.l0
    exact LeO.ite (impl_Bits_put.mono _ _ _ _ _) (LeO.bind (impl_Bits_put.mono _ _ _ _ _) (fun _ => ih0 _ _ _ _))
theorem impl_Bits_putVar.mono : ∀ a0 a1 a2 a3 k, LeO (impl_Bits_putVar.f k a0 a1 a2 a3) (impl_Bits_putVar.f (k + 1) a0 a1 a2 a3) := fun a0 a1 a2 a3 k => impl_Bits_putVar.mono_l k _ _ _ _
set_option maxHeartbeats 8000000 in
set_option maxRecDepth 100000 in
theorem impl_Bits_putVar.calls (k : Nat) (g : Nat) (u : Value) (l : List Int) (c a1 a2 : Int) (r1 : List Int) (r2 : Int) (w0 w : World) (P : Nat → Prop) (hB : Below w0.heap.size w0 w) (hg : w0.heap.size ≤ g)
    (hb : w.heap[g]? = some (.cells #[u, .int .i64 c] 27 (0, 0))) (ho : Kd.R (Kd.int .u8) 5 w w0.heap.size P u l) (q1 : 2 ≤ a2) (q2 : a2 ≤ 32) (h : impl_Bits_putVar.f k l c a1 a2 = some (r1, r2)) :
    Calls Try.prog 51 #[.pointer (some ⟨g, 0, none⟩), .int .u64 a1, .int .i64 a2] w fun e w' => e = .returned (.tuple #[]) ∧ (∃ u', w'.heap[g]? = some (.cells #[u', .int .i64 r2] 27 (0, 0)) ∧ Kd.R (Kd.int .u8) 5 w' w0.heap.size (fun k_ => P k_ ∨ w.heap.size ≤ k_) u' r1) ∧ Below w0.heap.size w0 w' ∧ Kept w w' (fun k_ => P k_ ∨ k_ = g) := by
  have hu27 := Try.underlying27
  have HG := Aside0.mk hg
  have BK := Aside0.mk hb
  have HO := Aside0.mk (show Kd.R (Kd.int .u8) 5 w w0.heap.size (fun k_ => P k_ ∨ w.heap.size ≤ k_) u l from Kd.R_mono ho (fun _ hk => .inl hk))
  have HK := Aside0.mk (Kept.refl w (fun k_ => P k_ ∨ k_ = g))
  have HB := Aside0.mk hB
  have H' := Aside0.mk (show impl_Bits_putVar.l0 k a1 a2 l c = some (r1, r2) from h)
  clear hg hb ho hB h
  go_enter Try.func51, Try.ntmps51
  go_wp2
  go_loopg [1] k (fun kq v1 w' => ∃ (v : Int) (u : Value) (l : List Int) (c : Int), v1 = .int .u64 v ∧ Aside0 (impl_Bits_putVar.l0 kq v a2 l c = some (r1, r2)) ∧ Aside0 (kq ≤ k) ∧ Aside0 (w'.heap[g]? = some (.cells #[u, .int .i64 c] 27 (0, 0))) ∧ Aside0 (Kd.R (Kd.int .u8) 5 w' w0.heap.size (fun k_ => P k_ ∨ w.heap.size ≤ k_) u l) ∧ Aside0 (Below w0.heap.size w0 w') ∧ Aside0 (Kept w w' (fun k_ => P k_ ∨ k_ = g)))
  case atStart => exact ⟨a1, u, l, c, rfl, H', ⟨Nat.le_refl _⟩, BK, HO, HB, HK⟩
  case round =>
    clear H' BK HO HB HK
    obtain ⟨v, u, l, c, rfl, HA, HK1, BK, HO, HB, HK⟩ := hrel
    cases gk with
    | zero => exact absurd HA.out (by simp [impl_Bits_putVar.l0])
    | succ k1 =>
      have H := HA.out
      clear HA
      simp only [impl_Bits_putVar.l0] at H
      by_cases c4 : v / 2 ^ (a2.toNat - 1) = 0
      · rw [if_pos c4] at H
        have c4b : (v / 2 ^ (a2.toNat - 1) == 0) = true := beq_iff_eq.mpr c4
        clear c4
        have A1 := Aside0.mk H
        clear H
        go_wp2_with (first | ((with_reducible refine gate_callee (f := 47) rfl ?_); refine goesL_ (some 22) rfl rfl Try.func47 (by kernel_rfl) rfl #[.pointer (some ⟨g, 0, none⟩), .int .u64 (Go.bits .and .u64 v (IntKind.u64.wrap (IntKind.u64.wrap (2 ^ (a2.toNat - 1)) - 1))), .int .i64 a2] rfl (by (try simp only [List.map_toArray, List.map_cons, List.map_nil]); first | done | rfl) ?_; (with_reducible refine (impl_Bits_put.calls k1 g _ l c (Go.bits .and .u64 v (IntKind.u64.wrap (IntKind.u64.wrap (2 ^ (a2.toNat - 1)) - 1))) a2 r1 r2 w0 _ (fun k_ => P k_ ∨ w.heap.size ≤ k_) HB.out HG.out BK.out HO.out A1.out).mono ?_); rintro e w7 ⟨rfl, ⟨u7, hb3, ho7⟩, hB7, hk7⟩; refine ⟨_, rfl, ?_⟩; have n0_ := Aside0.mk hb3; have n2_ := Aside0.mk (Kd.R_mono ho7 (fun _ h_ => h_.elim id (fun h_ => .inr (Nat.le_trans HK.out.1 h_)))); have n3_ := Aside0.mk hB7; have n4_ := Aside0.mk (HK.out.then_ hk7 (fun _ h_ => h_.elim (fun h_ => h_.elim (fun h_ => .inl (.inl h_)) .inr) (fun h_ => .inl (.inr h_)))); clear BK HO HB HK hb3 hk7 ho7 hB7; have BK := n0_; have HO := n2_; have HB := n3_; have HK := n4_; clear n0_ n2_ n3_ n4_) | (fail))
        (try simp only [Exit.inBlock, Exit.then])
        refine bodyPost_ret (results_none rfl _ _ _) rfl ?_
        exact ⟨rfl, ⟨_, BK.out, HO.out⟩, HB.out, HK.out⟩
      · rw [if_neg c4] at H
        have c4b : (v / 2 ^ (a2.toNat - 1) == 0) = false := beq_eq_false_iff_ne.mpr c4
        clear c4
        obtain ⟨⟨t1, t2⟩, A1, H⟩ := Option.bind_eq_some_iff.mp H
        replace A1 := Aside0.mk A1
        have H' := Aside0.mk H
        clear H
        go_wp2_with (first | ((with_reducible refine gate_callee (f := 47) rfl ?_); refine goesL_ (some 30) rfl rfl Try.func47 (by kernel_rfl) rfl #[.pointer (some ⟨g, 0, none⟩), .int .u64 (Go.bits .or .u64 (Go.bits .and .u64 v (IntKind.u64.wrap (IntKind.u64.wrap (2 ^ (a2.toNat - 1)) - 1))) (IntKind.u64.wrap (2 ^ (a2.toNat - 1)))), .int .i64 a2] rfl (by (try simp only [List.map_toArray, List.map_cons, List.map_nil]); first | done | rfl) ?_; (with_reducible refine (impl_Bits_put.calls k1 g _ l c (Go.bits .or .u64 (Go.bits .and .u64 v (IntKind.u64.wrap (IntKind.u64.wrap (2 ^ (a2.toNat - 1)) - 1))) (IntKind.u64.wrap (2 ^ (a2.toNat - 1)))) a2 t1 t2 w0 _ (fun k_ => P k_ ∨ w.heap.size ≤ k_) HB.out HG.out BK.out HO.out A1.out).mono ?_); rintro e w7 ⟨rfl, ⟨u7, hb3, ho7⟩, hB7, hk7⟩; refine ⟨_, rfl, ?_⟩; have n0_ := Aside0.mk hb3; have n2_ := Aside0.mk (Kd.R_mono ho7 (fun _ h_ => h_.elim id (fun h_ => .inr (Nat.le_trans HK.out.1 h_)))); have n3_ := Aside0.mk hB7; have n4_ := Aside0.mk (HK.out.then_ hk7 (fun _ h_ => h_.elim (fun h_ => h_.elim (fun h_ => .inl (.inl h_)) .inr) (fun h_ => .inl (.inr h_)))); clear BK HO HB HK hb3 hk7 ho7 hB7; have BK := n0_; have HO := n2_; have HB := n3_; have HK := n4_; clear n0_ n2_ n3_ n4_) | (fail))
        go_roundg k1
        case measure => have := HK1.out; omega
        case rel => exact ⟨v / 2 ^ (a2.toNat - 1), _, t1, t2, rfl, H', ⟨by have := HK1.out; omega⟩, BK, HO, HB, HK⟩

/-! ### impl_PutVar: function 27, by hand -/
def impl_PutVar.f (k : Nat) (l0_0 : List Int) (a0_1 : Int) (a1 : Int) (a2 : Int) : Option (List Int × Int) := (impl_right.f k l0_0 a0_1).bind fun t => if a2 ≥ 2 then (if a2 ≤ 32 then impl_Bits_putVar.f k t.1 t.2 a1 a2 else some t) else some t
theorem impl_PutVar.mono : ∀ a0 a1 a2 a3 k, LeO (impl_PutVar.f k a0 a1 a2 a3) (impl_PutVar.f (k + 1) a0 a1 a2 a3) := by
  intro a0 a1 a2 a3 k
  unfold impl_PutVar.f
  refine LeO.bind (impl_right.mono _ _ _) (fun _ => LeO.ite (LeO.ite (impl_Bits_putVar.mono _ _ _ _ _) (LeO.refl _)) (LeO.refl _))
set_option maxHeartbeats 8000000 in
set_option maxRecDepth 100000 in
theorem impl_PutVar.calls (k : Nat) (A0_0 : Option Addr) (c0_0 : Nat) (l0_0 : List Int) (a0_1 : Int) (a1 : Int) (a2 : Int) (r1 : List Int) (r2 : Int) (w : World) (hr0_0 : Kd.C (Kd.int .u8) w A0_0 l0_0.length l0_0) (hc0_0 : l0_0.length ≤ c0_0) (h : impl_PutVar.f k l0_0 a0_1 a1 a2 = some (r1, r2)) :
    Calls Try.prog 27 #[.agg #[.slice A0_0 l0_0.length c0_0, .int .i64 a0_1], .int .u64 a1, .int .i64 a2] w fun e w' => ∃ v0_ : Value, e = .returned (.agg #[v0_, .int .i64 r2]) ∧ Kd.R (Kd.int .u8) 5 w' w.heap.size (fun _ => True) v0_ r1 ∧ Below w.heap.size w w' := by
  have hu27 := Try.underlying27
  have HR := Aside0.mk hr0_0
  have HC := Aside0.mk hc0_0
  clear hr0_0 hc0_0
  have HB := Aside0.mk (Below.refl w.heap.size w)
  have H : ((impl_right.f k l0_0 a0_1).bind fun t => if a2 ≥ 2 then (if a2 ≤ 32 then impl_Bits_putVar.f k t.1 t.2 a1 a2 else some t) else some t) = some (r1, r2) := h
  clear h
  obtain ⟨⟨t1, t2⟩, A70, H⟩ := Option.bind_eq_some_iff.mp H
  have A7 := Aside0.mk A70
  clear A70
  by_cases c1 : a2 ≥ 2
  · rw [if_pos c1] at H
    have Q1 := Aside0.mk c1
    have c1b : decide (2 ≤ a2) = true := decide_eq_true c1
    clear c1
    by_cases c2 : a2 ≤ 32
    · rw [if_pos c2] at H
      have Q2 := Aside0.mk c2
      have c2b : decide (a2 ≤ 32) = true := decide_eq_true c2
      clear c2
      have A9 := Aside0.mk (show impl_Bits_putVar.f k t1 t2 a1 a2 = some (r1, r2) from H)
      clear H
      go_enter Try.func27, Try.ntmps27
      go_wp2_with (first | ((with_reducible refine gate_dst (N := 3) rfl ?_); refine box_event ?hg (N := 3) ?hd (cs := #[.slice A0_0 l0_0.length c0_0, .int .i64 a0_1]) (t := 27) ?hr ?_; (case hd => rfl); (case hg => rfl); (case hr => first | (go_simp; done) | (go_simp; rfl)); intro gb1 hg w1 hbox hb; have n0_ := Aside0.mk (below_step (by repeat (first | exact HB.out | apply below_alloc | apply pw_below_drewN | apply below_drew1 | refine below_set ?_ GE1.out | refine below_set ?_ GE2.out | refine below_set ?_ GE3.out)) hb); have n1_ := Aside0.mk hbox; have n2_ := Aside0.mk ((by rw [hg]; exact (below_size (by repeat (first | exact HB.out | apply below_alloc | apply pw_below_drewN | apply below_drew1 | refine below_set ?_ GE1.out | refine below_set ?_ GE2.out | refine below_set ?_ GE3.out)))) : w.heap.size ≤ gb1); clear HB; have HB := n0_; have BK1 := n1_; have GE1 := n2_; clear n0_ n1_ n2_; clear hbox hb hg) | ((with_reducible refine gate_dst (N := 6) rfl ?_); refine box_event ?hg (N := 6) ?hd (cs := #[.slice none 0 0, .int .i64 0]) (t := 27) ?hr ?_; (case hd => rfl); (case hg => rfl); (case hr => first | (go_simp; done) | (go_simp; rfl)); intro gb2 hg w2 hbox hb; have m1_ := Aside0.mk (blk_below BK1.out hb); have e1_ := Aside0.mk (by rw [hg]; exact Nat.ne_of_lt (blk_lt BK1.out) : gb1 ≠ gb2); have n0_ := Aside0.mk (below_step (by repeat (first | exact HB.out | apply below_alloc | apply pw_below_drewN | apply below_drew1 | refine below_set ?_ GE1.out | refine below_set ?_ GE2.out | refine below_set ?_ GE3.out)) hb); have n1_ := Aside0.mk hbox; have n2_ := Aside0.mk ((by rw [hg]; exact (below_size (by repeat (first | exact HB.out | apply below_alloc | apply pw_below_drewN | apply below_drew1 | refine below_set ?_ GE1.out | refine below_set ?_ GE2.out | refine below_set ?_ GE3.out)))) : w.heap.size ≤ gb2); clear HB; have HB := n0_; have BK2 := n1_; have GE2 := n2_; clear n0_ n1_ n2_; clear BK1; have BK1 := m1_; have NE12 := e1_; clear m1_ e1_; clear hbox hb hg; have h10 : w2.cell? ⟨gb1, 0, none⟩ = some (Value.slice A0_0 l0_0.length c0_0) := (blk_cell BK1.out 0).trans rfl; have h11 : w2.cell? ⟨gb1, 1, none⟩ = some (Value.int .i64 a0_1) := (blk_cell BK1.out 1).trans rfl) | ((with_reducible refine gate_callee (f := 45) rfl ?_); refine goesL_ (some 9) rfl rfl Try.func45 (by kernel_rfl) rfl #[.agg #[.slice A0_0 l0_0.length c0_0, .int .i64 a0_1]] rfl (by (try simp only [List.map_toArray, List.map_cons, List.map_nil]); first | done | rfl | (simp only [List.length_drop, List.length_take]; rfl)) ?_; (with_reducible refine (impl_right.calls k _ _ l0_0 a0_1 t1 t2 _ ?side1 ?side2 A7.out).mono ?_); (case side1 => repeat (first | exact (Kd.C_below HR.out HB.out) | (with_reducible refine Kd.C_alloc ?_ _) | (with_reducible refine Kd.C_drewN ?_ _) | (with_reducible refine Kd.C_drew ?_))); (case side2 => exact HC.out); rintro e w5 ⟨v5, rfl, ho0, hb⟩; refine ⟨_, rfl, ?_⟩; have n0_ := Aside0.mk (Kd.R_lower ho0 (below_size (by repeat (first | exact HB.out | apply below_alloc | apply pw_below_drewN | apply below_drew1 | refine below_set ?_ GE1.out | refine below_set ?_ GE2.out | refine below_set ?_ GE3.out)))); have n2_ := Aside0.mk (blk_below BK2.out hb); have n3_ := Aside0.mk (below_step (by repeat (first | exact HB.out | apply below_alloc | apply pw_below_drewN | apply below_drew1 | refine below_set ?_ GE1.out | refine below_set ?_ GE2.out | refine below_set ?_ GE3.out)) hb); clear h10 h11 BK1 BK2 HB; have HO := n0_; have BK2 := n2_; have HB := n3_; clear n0_ n2_ n3_ hb ho0; obtain ⟨Av, cv, ev⟩ := Kd.R_slice HO.out; subst ev) | ((with_reducible refine gate_dst (N := 7) rfl ?_); refine box_event ?hg (N := 7) ?hd (cs := #[.slice none 0 0, .int .i64 0]) (t := 27) ?hr ?_; (case hd => rfl); (case hg => rfl); (case hr => first | (go_simp; done) | (go_simp; rfl)); intro gb3 hg w3 hbox hb; have m2_ := Aside0.mk (blk_below BK2.out hb); have e2_ := Aside0.mk (by rw [hg]; exact Nat.ne_of_lt (blk_lt BK2.out) : gb2 ≠ gb3); have rHO_ := Aside0.mk (Kd.R_below HO.out hb); have n0_ := Aside0.mk (below_step (by repeat (first | exact HB.out | apply below_alloc | apply pw_below_drewN | apply below_drew1 | refine below_set ?_ GE1.out | refine below_set ?_ GE2.out | refine below_set ?_ GE3.out)) hb); have n1_ := Aside0.mk hbox; have n2_ := Aside0.mk ((by rw [hg]; exact (below_size (by repeat (first | exact HB.out | apply below_alloc | apply pw_below_drewN | apply below_drew1 | refine below_set ?_ GE1.out | refine below_set ?_ GE2.out | refine below_set ?_ GE3.out)))) : w.heap.size ≤ gb3); clear HB; have HB := n0_; have BK3 := n1_; have GE3 := n2_; clear n0_ n1_ n2_; clear BK2; have BK2 := m2_; have NE23 := e2_; clear m2_ e2_; clear HO; have HO := rHO_; clear rHO_; clear hbox hb hg; have h30 : w3.cell? ⟨gb3, 0, none⟩ = some (Value.slice none 0 0) := (blk_cell BK3.out 0).trans rfl; have h31 : w3.cell? ⟨gb3, 1, none⟩ = some (Value.int .i64 0) := (blk_cell BK3.out 1).trans rfl; have hz30 := blk_frozen BK3.out 0; have hz31 := blk_frozen BK3.out 1; have hne23 := NE23.out; have hne32 : gb3 ≠ gb2 := Ne.symm NE23.out; have h20 : w3.cell? ⟨gb2, 0, none⟩ = some (Value.slice none 0 0) := (blk_cell BK2.out 0).trans rfl; have h21 : w3.cell? ⟨gb2, 1, none⟩ = some (Value.int .i64 0) := (blk_cell BK2.out 1).trans rfl; have hz20 := blk_frozen BK2.out 0; have hz21 := blk_frozen BK2.out 1) | ((with_reducible refine gate_callee (f := 51) rfl ?_); have n0_ : Aside0 (((w3.setCell ⟨gb3, 0, none⟩ (.slice Av t1.length cv)).setCell ⟨gb3, 1, none⟩ (.int .i64 t2)).heap[gb3]? = some (.cells #[.slice Av t1.length cv, .int .i64 t2] 27 (0, 0))) := ⟨blk_put (cs := #[.slice Av t1.length cv, .int .i64 0]) (blk_put (cs := #[.slice none 0 0, .int .i64 0]) BK3.out 0 _ rfl) 1 _ rfl⟩; have n1_ : Aside0 (((w3.setCell ⟨gb3, 0, none⟩ (.slice Av t1.length cv)).setCell ⟨gb3, 1, none⟩ (.int .i64 t2)).heap[gb2]? = some (.cells #[.slice none 0 0, .int .i64 0] 27 (0, 0))) := ⟨blk_far (blk_far BK2.out NE23.out _) NE23.out _⟩; have n2_ : Aside0 (Kd.R (Kd.int .u8) 5 ((w3.setCell ⟨gb3, 0, none⟩ (.slice Av t1.length cv)).setCell ⟨gb3, 1, none⟩ (.int .i64 t2)) w.heap.size (fun _ => True) (.slice Av t1.length cv) t1) := ⟨Kd.R_mono (Kd.R_far (p := ⟨gb3, 1, none⟩) (Kd.R_far (p := ⟨gb3, 0, none⟩) (Kd.R_types HO.out BK3.out (by decide)) (fun _ hk => hk.2) _) (fun _ hk => hk.2) _) (fun _ _ => trivial)⟩; have n3_ : Aside0 (Below w.heap.size w ((w3.setCell ⟨gb3, 0, none⟩ (.slice Av t1.length cv)).setCell ⟨gb3, 1, none⟩ (.int .i64 t2))) := ⟨below_set (below_set HB.out GE3.out) GE3.out⟩; clear h30 h31 hz30 hz31 h20 h21 hz20 hz21 HB BK2 BK3 HO; generalize ((w3.setCell ⟨gb3, 0, none⟩ (.slice Av t1.length cv)).setCell ⟨gb3, 1, none⟩ (.int .i64 t2)) = w4 at n0_ n1_ n2_ n3_ ⊢; have BK3 := n0_; have BK2 := n1_; have HO := n2_; have HB := n3_; clear n0_ n1_ n2_ n3_; refine goesL_ (some 18) rfl rfl Try.func51 (by kernel_rfl) rfl #[.pointer (some ⟨gb3, 0, none⟩), .int .u64 a1, .int .i64 a2] rfl (by (try simp only [List.map_toArray, List.map_cons, List.map_nil]); first | done | rfl) ?_; (with_reducible refine (impl_Bits_putVar.calls k gb3 _ t1 t2 a1 a2 r1 r2 w _ (fun k_ => k_ ≠ gb2) HB.out GE3.out BK3.out (Kd.R_mono (Kd.R_types HO.out BK2.out (by decide)) (fun _ hk => hk.2)) Q1.out Q2.out A9.out).mono ?_); rintro e w7 ⟨rfl, ⟨u7, hb3, ho7⟩, hB7, hk7⟩; refine ⟨_, rfl, ?_⟩; have n0_ := Aside0.mk hb3; have n1_ := Aside0.mk (blk_kept BK2.out hk7 (fun h_ => h_.elim (fun h_ => h_ rfl) NE23.out)); have n2_ := Aside0.mk ho7; have n3_ := Aside0.mk hB7; clear BK3 BK2 HO HB hb3 hk7 ho7 hB7; have BK3 := n0_; have BK2 := n1_; have HO := n2_; have HB := n3_; clear n0_ n1_ n2_ n3_; obtain ⟨Aw, cw, ew⟩ := Kd.R_slice HO.out; subst ew; have h30 : w7.cell? ⟨gb3, 0, none⟩ = some (Value.slice Aw r1.length cw) := (blk_cell BK3.out 0).trans rfl; have h31 : w7.cell? ⟨gb3, 1, none⟩ = some (Value.int .i64 r2) := (blk_cell BK3.out 1).trans rfl; have h20 : w7.cell? ⟨gb2, 0, none⟩ = some (Value.slice none 0 0) := (blk_cell BK2.out 0).trans rfl; have h21 : w7.cell? ⟨gb2, 1, none⟩ = some (Value.int .i64 0) := (blk_cell BK2.out 1).trans rfl; have hz20 := blk_frozen BK2.out 0; have hz21 := blk_frozen BK2.out 1) | (fail))
      refine bodyPost_ret (results_cell_row rfl _ _ gb2 27 #[.slice Aw r1.length cw, .int .i64 r2] (0, 0) _ rfl ?hrow Try.underlying27 rfl (by kernel_rfl)) rfl ?_
      case hrow => exact blk_put (cs := #[.slice Aw r1.length cw, .int .i64 0]) (blk_put (cs := #[.slice none 0 0, .int .i64 0]) BK2.out 0 _ rfl) 1 _ rfl
      exact ⟨_, rfl, Kd.R_mono (Kd.R_far (p := ⟨gb2, 1, none⟩) (Kd.R_far (p := ⟨gb2, 0, none⟩) (Kd.R_types HO.out BK2.out (by decide)) (fun _ hk => hk.2) _) (fun _ hk => hk.2) _) (fun _ _ => trivial), below_set (below_set HB.out GE2.out) GE2.out⟩
    · rw [if_neg c2] at H
      have c2b : decide (a2 ≤ 32) = false := decide_eq_false c2
      clear c2
      obtain ⟨rfl, rfl⟩ : t1 = r1 ∧ t2 = r2 := by
        simp only [Option.some.injEq, Prod.mk.injEq] at H
        exact H
      clear H
      go_enter Try.func27, Try.ntmps27
      go_wp2_with (first | ((with_reducible refine gate_dst (N := 3) rfl ?_); refine box_event ?hg (N := 3) ?hd (cs := #[.slice A0_0 l0_0.length c0_0, .int .i64 a0_1]) (t := 27) ?hr ?_; (case hd => rfl); (case hg => rfl); (case hr => first | (go_simp; done) | (go_simp; rfl)); intro gb1 hg w1 hbox hb; have n0_ := Aside0.mk (below_step (by repeat (first | exact HB.out | apply below_alloc | apply pw_below_drewN | apply below_drew1 | refine below_set ?_ GE1.out | refine below_set ?_ GE2.out | refine below_set ?_ GE3.out)) hb); have n1_ := Aside0.mk hbox; have n2_ := Aside0.mk ((by rw [hg]; exact (below_size (by repeat (first | exact HB.out | apply below_alloc | apply pw_below_drewN | apply below_drew1 | refine below_set ?_ GE1.out | refine below_set ?_ GE2.out | refine below_set ?_ GE3.out)))) : w.heap.size ≤ gb1); clear HB; have HB := n0_; have BK1 := n1_; have GE1 := n2_; clear n0_ n1_ n2_; clear hbox hb hg) | ((with_reducible refine gate_dst (N := 6) rfl ?_); refine box_event ?hg (N := 6) ?hd (cs := #[.slice none 0 0, .int .i64 0]) (t := 27) ?hr ?_; (case hd => rfl); (case hg => rfl); (case hr => first | (go_simp; done) | (go_simp; rfl)); intro gb2 hg w2 hbox hb; have m1_ := Aside0.mk (blk_below BK1.out hb); have e1_ := Aside0.mk (by rw [hg]; exact Nat.ne_of_lt (blk_lt BK1.out) : gb1 ≠ gb2); have n0_ := Aside0.mk (below_step (by repeat (first | exact HB.out | apply below_alloc | apply pw_below_drewN | apply below_drew1 | refine below_set ?_ GE1.out | refine below_set ?_ GE2.out | refine below_set ?_ GE3.out)) hb); have n1_ := Aside0.mk hbox; have n2_ := Aside0.mk ((by rw [hg]; exact (below_size (by repeat (first | exact HB.out | apply below_alloc | apply pw_below_drewN | apply below_drew1 | refine below_set ?_ GE1.out | refine below_set ?_ GE2.out | refine below_set ?_ GE3.out)))) : w.heap.size ≤ gb2); clear HB; have HB := n0_; have BK2 := n1_; have GE2 := n2_; clear n0_ n1_ n2_; clear BK1; have BK1 := m1_; have NE12 := e1_; clear m1_ e1_; clear hbox hb hg; have h10 : w2.cell? ⟨gb1, 0, none⟩ = some (Value.slice A0_0 l0_0.length c0_0) := (blk_cell BK1.out 0).trans rfl; have h11 : w2.cell? ⟨gb1, 1, none⟩ = some (Value.int .i64 a0_1) := (blk_cell BK1.out 1).trans rfl) | ((with_reducible refine gate_callee (f := 45) rfl ?_); refine goesL_ (some 9) rfl rfl Try.func45 (by kernel_rfl) rfl #[.agg #[.slice A0_0 l0_0.length c0_0, .int .i64 a0_1]] rfl (by (try simp only [List.map_toArray, List.map_cons, List.map_nil]); first | done | rfl | (simp only [List.length_drop, List.length_take]; rfl)) ?_; (with_reducible refine (impl_right.calls k _ _ l0_0 a0_1 t1 t2 _ ?side1 ?side2 A7.out).mono ?_); (case side1 => repeat (first | exact (Kd.C_below HR.out HB.out) | (with_reducible refine Kd.C_alloc ?_ _) | (with_reducible refine Kd.C_drewN ?_ _) | (with_reducible refine Kd.C_drew ?_))); (case side2 => exact HC.out); rintro e w5 ⟨v5, rfl, ho0, hb⟩; refine ⟨_, rfl, ?_⟩; have n0_ := Aside0.mk (Kd.R_lower ho0 (below_size (by repeat (first | exact HB.out | apply below_alloc | apply pw_below_drewN | apply below_drew1 | refine below_set ?_ GE1.out | refine below_set ?_ GE2.out | refine below_set ?_ GE3.out)))); have n2_ := Aside0.mk (blk_below BK2.out hb); have n3_ := Aside0.mk (below_step (by repeat (first | exact HB.out | apply below_alloc | apply pw_below_drewN | apply below_drew1 | refine below_set ?_ GE1.out | refine below_set ?_ GE2.out | refine below_set ?_ GE3.out)) hb); clear h10 h11 BK1 BK2 HB; have HO := n0_; have BK2 := n2_; have HB := n3_; clear n0_ n2_ n3_ hb ho0; obtain ⟨Av, cv, ev⟩ := Kd.R_slice HO.out; subst ev) | ((with_reducible refine gate_dst (N := 7) rfl ?_); refine box_event ?hg (N := 7) ?hd (cs := #[.slice none 0 0, .int .i64 0]) (t := 27) ?hr ?_; (case hd => rfl); (case hg => rfl); (case hr => first | (go_simp; done) | (go_simp; rfl)); intro gb3 hg w3 hbox hb; have m2_ := Aside0.mk (blk_below BK2.out hb); have e2_ := Aside0.mk (by rw [hg]; exact Nat.ne_of_lt (blk_lt BK2.out) : gb2 ≠ gb3); have rHO_ := Aside0.mk (Kd.R_below HO.out hb); have n0_ := Aside0.mk (below_step (by repeat (first | exact HB.out | apply below_alloc | apply pw_below_drewN | apply below_drew1 | refine below_set ?_ GE1.out | refine below_set ?_ GE2.out | refine below_set ?_ GE3.out)) hb); have n1_ := Aside0.mk hbox; have n2_ := Aside0.mk ((by rw [hg]; exact (below_size (by repeat (first | exact HB.out | apply below_alloc | apply pw_below_drewN | apply below_drew1 | refine below_set ?_ GE1.out | refine below_set ?_ GE2.out | refine below_set ?_ GE3.out)))) : w.heap.size ≤ gb3); clear HB; have HB := n0_; have BK3 := n1_; have GE3 := n2_; clear n0_ n1_ n2_; clear BK2; have BK2 := m2_; have NE23 := e2_; clear m2_ e2_; clear HO; have HO := rHO_; clear rHO_; clear hbox hb hg; have h30 : w3.cell? ⟨gb3, 0, none⟩ = some (Value.slice none 0 0) := (blk_cell BK3.out 0).trans rfl; have h31 : w3.cell? ⟨gb3, 1, none⟩ = some (Value.int .i64 0) := (blk_cell BK3.out 1).trans rfl; have hz30 := blk_frozen BK3.out 0; have hz31 := blk_frozen BK3.out 1; have hne23 := NE23.out; have hne32 : gb3 ≠ gb2 := Ne.symm NE23.out; have h20 : w3.cell? ⟨gb2, 0, none⟩ = some (Value.slice none 0 0) := (blk_cell BK2.out 0).trans rfl; have h21 : w3.cell? ⟨gb2, 1, none⟩ = some (Value.int .i64 0) := (blk_cell BK2.out 1).trans rfl; have hz20 := blk_frozen BK2.out 0; have hz21 := blk_frozen BK2.out 1) | (fail))
      refine bodyPost_ret (results_cell_row rfl _ _ gb2 27 #[.slice Av t1.length cv, .int .i64 t2] (0, 0) _ rfl ?hrow Try.underlying27 rfl (by kernel_rfl)) rfl ?_
      case hrow => exact blk_put (cs := #[.slice Av t1.length cv, .int .i64 0]) (blk_put (cs := #[.slice none 0 0, .int .i64 0]) (blk_far (blk_far BK2.out NE23.out _) NE23.out _) 0 _ rfl) 1 _ rfl
      exact ⟨_, rfl, Kd.R_mono (Kd.R_far (p := ⟨gb2, 1, none⟩) (Kd.R_far (p := ⟨gb2, 0, none⟩) (Kd.R_types (Kd.R_far (p := ⟨gb3, 1, none⟩) (Kd.R_far (p := ⟨gb3, 0, none⟩) (Kd.R_types HO.out BK3.out (by decide)) (fun _ hk => hk.2) _) (fun _ hk => hk.2) _) (blk_far (blk_far BK2.out NE23.out _) NE23.out _) (by decide)) (fun _ hk => hk.2) _) (fun _ hk => hk.2) _) (fun _ _ => trivial), below_set (below_set (below_set (below_set HB.out GE3.out) GE3.out) GE2.out) GE2.out⟩
  · rw [if_neg c1] at H
    have c1b : decide (2 ≤ a2) = false := decide_eq_false c1
    clear c1
    obtain ⟨rfl, rfl⟩ : t1 = r1 ∧ t2 = r2 := by
      simp only [Option.some.injEq, Prod.mk.injEq] at H
      exact H
    clear H
    go_enter Try.func27, Try.ntmps27
    go_wp2_with (first | ((with_reducible refine gate_dst (N := 3) rfl ?_); refine box_event ?hg (N := 3) ?hd (cs := #[.slice A0_0 l0_0.length c0_0, .int .i64 a0_1]) (t := 27) ?hr ?_; (case hd => rfl); (case hg => rfl); (case hr => first | (go_simp; done) | (go_simp; rfl)); intro gb1 hg w1 hbox hb; have n0_ := Aside0.mk (below_step (by repeat (first | exact HB.out | apply below_alloc | apply pw_below_drewN | apply below_drew1 | refine below_set ?_ GE1.out | refine below_set ?_ GE2.out | refine below_set ?_ GE3.out)) hb); have n1_ := Aside0.mk hbox; have n2_ := Aside0.mk ((by rw [hg]; exact (below_size (by repeat (first | exact HB.out | apply below_alloc | apply pw_below_drewN | apply below_drew1 | refine below_set ?_ GE1.out | refine below_set ?_ GE2.out | refine below_set ?_ GE3.out)))) : w.heap.size ≤ gb1); clear HB; have HB := n0_; have BK1 := n1_; have GE1 := n2_; clear n0_ n1_ n2_; clear hbox hb hg) | ((with_reducible refine gate_dst (N := 6) rfl ?_); refine box_event ?hg (N := 6) ?hd (cs := #[.slice none 0 0, .int .i64 0]) (t := 27) ?hr ?_; (case hd => rfl); (case hg => rfl); (case hr => first | (go_simp; done) | (go_simp; rfl)); intro gb2 hg w2 hbox hb; have m1_ := Aside0.mk (blk_below BK1.out hb); have e1_ := Aside0.mk (by rw [hg]; exact Nat.ne_of_lt (blk_lt BK1.out) : gb1 ≠ gb2); have n0_ := Aside0.mk (below_step (by repeat (first | exact HB.out | apply below_alloc | apply pw_below_drewN | apply below_drew1 | refine below_set ?_ GE1.out | refine below_set ?_ GE2.out | refine below_set ?_ GE3.out)) hb); have n1_ := Aside0.mk hbox; have n2_ := Aside0.mk ((by rw [hg]; exact (below_size (by repeat (first | exact HB.out | apply below_alloc | apply pw_below_drewN | apply below_drew1 | refine below_set ?_ GE1.out | refine below_set ?_ GE2.out | refine below_set ?_ GE3.out)))) : w.heap.size ≤ gb2); clear HB; have HB := n0_; have BK2 := n1_; have GE2 := n2_; clear n0_ n1_ n2_; clear BK1; have BK1 := m1_; have NE12 := e1_; clear m1_ e1_; clear hbox hb hg; have h10 : w2.cell? ⟨gb1, 0, none⟩ = some (Value.slice A0_0 l0_0.length c0_0) := (blk_cell BK1.out 0).trans rfl; have h11 : w2.cell? ⟨gb1, 1, none⟩ = some (Value.int .i64 a0_1) := (blk_cell BK1.out 1).trans rfl) | ((with_reducible refine gate_callee (f := 45) rfl ?_); refine goesL_ (some 9) rfl rfl Try.func45 (by kernel_rfl) rfl #[.agg #[.slice A0_0 l0_0.length c0_0, .int .i64 a0_1]] rfl (by (try simp only [List.map_toArray, List.map_cons, List.map_nil]); first | done | rfl | (simp only [List.length_drop, List.length_take]; rfl)) ?_; (with_reducible refine (impl_right.calls k _ _ l0_0 a0_1 t1 t2 _ ?side1 ?side2 A7.out).mono ?_); (case side1 => repeat (first | exact (Kd.C_below HR.out HB.out) | (with_reducible refine Kd.C_alloc ?_ _) | (with_reducible refine Kd.C_drewN ?_ _) | (with_reducible refine Kd.C_drew ?_))); (case side2 => exact HC.out); rintro e w5 ⟨v5, rfl, ho0, hb⟩; refine ⟨_, rfl, ?_⟩; have n0_ := Aside0.mk (Kd.R_lower ho0 (below_size (by repeat (first | exact HB.out | apply below_alloc | apply pw_below_drewN | apply below_drew1 | refine below_set ?_ GE1.out | refine below_set ?_ GE2.out | refine below_set ?_ GE3.out)))); have n2_ := Aside0.mk (blk_below BK2.out hb); have n3_ := Aside0.mk (below_step (by repeat (first | exact HB.out | apply below_alloc | apply pw_below_drewN | apply below_drew1 | refine below_set ?_ GE1.out | refine below_set ?_ GE2.out | refine below_set ?_ GE3.out)) hb); clear h10 h11 BK1 BK2 HB; have HO := n0_; have BK2 := n2_; have HB := n3_; clear n0_ n2_ n3_ hb ho0; obtain ⟨Av, cv, ev⟩ := Kd.R_slice HO.out; subst ev) | ((with_reducible refine gate_dst (N := 7) rfl ?_); refine box_event ?hg (N := 7) ?hd (cs := #[.slice none 0 0, .int .i64 0]) (t := 27) ?hr ?_; (case hd => rfl); (case hg => rfl); (case hr => first | (go_simp; done) | (go_simp; rfl)); intro gb3 hg w3 hbox hb; have m2_ := Aside0.mk (blk_below BK2.out hb); have e2_ := Aside0.mk (by rw [hg]; exact Nat.ne_of_lt (blk_lt BK2.out) : gb2 ≠ gb3); have rHO_ := Aside0.mk (Kd.R_below HO.out hb); have n0_ := Aside0.mk (below_step (by repeat (first | exact HB.out | apply below_alloc | apply pw_below_drewN | apply below_drew1 | refine below_set ?_ GE1.out | refine below_set ?_ GE2.out | refine below_set ?_ GE3.out)) hb); have n1_ := Aside0.mk hbox; have n2_ := Aside0.mk ((by rw [hg]; exact (below_size (by repeat (first | exact HB.out | apply below_alloc | apply pw_below_drewN | apply below_drew1 | refine below_set ?_ GE1.out | refine below_set ?_ GE2.out | refine below_set ?_ GE3.out)))) : w.heap.size ≤ gb3); clear HB; have HB := n0_; have BK3 := n1_; have GE3 := n2_; clear n0_ n1_ n2_; clear BK2; have BK2 := m2_; have NE23 := e2_; clear m2_ e2_; clear HO; have HO := rHO_; clear rHO_; clear hbox hb hg; have h30 : w3.cell? ⟨gb3, 0, none⟩ = some (Value.slice none 0 0) := (blk_cell BK3.out 0).trans rfl; have h31 : w3.cell? ⟨gb3, 1, none⟩ = some (Value.int .i64 0) := (blk_cell BK3.out 1).trans rfl; have hz30 := blk_frozen BK3.out 0; have hz31 := blk_frozen BK3.out 1; have hne23 := NE23.out; have hne32 : gb3 ≠ gb2 := Ne.symm NE23.out; have h20 : w3.cell? ⟨gb2, 0, none⟩ = some (Value.slice none 0 0) := (blk_cell BK2.out 0).trans rfl; have h21 : w3.cell? ⟨gb2, 1, none⟩ = some (Value.int .i64 0) := (blk_cell BK2.out 1).trans rfl; have hz20 := blk_frozen BK2.out 0; have hz21 := blk_frozen BK2.out 1) | (fail))
    refine bodyPost_ret (results_cell_row rfl _ _ gb2 27 #[.slice Av t1.length cv, .int .i64 t2] (0, 0) _ rfl ?hrow Try.underlying27 rfl (by kernel_rfl)) rfl ?_
    case hrow => exact blk_put (cs := #[.slice Av t1.length cv, .int .i64 0]) (blk_put (cs := #[.slice none 0 0, .int .i64 0]) (blk_far (blk_far BK2.out NE23.out _) NE23.out _) 0 _ rfl) 1 _ rfl
    exact ⟨_, rfl, Kd.R_mono (Kd.R_far (p := ⟨gb2, 1, none⟩) (Kd.R_far (p := ⟨gb2, 0, none⟩) (Kd.R_types (Kd.R_far (p := ⟨gb3, 1, none⟩) (Kd.R_far (p := ⟨gb3, 0, none⟩) (Kd.R_types HO.out BK3.out (by decide)) (fun _ hk => hk.2) _) (fun _ hk => hk.2) _) (blk_far (blk_far BK2.out NE23.out _) NE23.out _) (by decide)) (fun _ hk => hk.2) _) (fun _ hk => hk.2) _) (fun _ _ => trivial), below_set (below_set (below_set (below_set HB.out GE3.out) GE3.out) GE2.out) GE2.out⟩

end Go.Proofs.Ytcjdgimiobhhnaa.QFnExactPutVar
