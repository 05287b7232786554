-- written by mp.py, a program of this session, over the translation; Lean checks it
import Derived.Test.YtnogjankhacdpaaQFnExactResultOfx0
import Derived.Test.YtnogjankhacdpaaQFnExactResultOfx2
namespace Go.Proofs.Ytnogjankhacdpaa.QFnExactResultOf
open Go.RowKit Go.Proofs.YtnogjankhacdpaaW.PrintWords Go.Proofs.YtnogjankhacdpaaW.PrintLast Go.Proofs.YtnogjankhacdpaaW.PrintMore
attribute [local go_sem] max2_int min2_int max_two min_two max_three min_three max_four min_four   -- for this text's walks alone
set_option linter.unusedVariables false
set_option linter.unusedSimpArgs false

/-! ### spec_ResultOf: function 19 -/
mutual
def spec_ResultOf.j0 : Nat → Int → Int → Bool → ByteArray → Int → List Int → Int → List (S61) → Option (Int)
  | 0, _, _, _, _, _, _, _, _ => none
  | k + 1, x1, x2, x27, x117000, x117001, x117002, x117003, x117004 => if x27 = true then (some (-1)) else (spec_ResultOf.l0 k x1 x2 (x117002.length : Int) 0 x117000 x117001 x117002 x117003 x117004)
def spec_ResultOf.l0 : Nat → Int → Int → Int → Int → ByteArray → Int → List Int → Int → List (S61) → Option (Int)
  | 0, _, _, _, _, _, _, _, _, _ => none
  | k + 1, x1, x2, x7, x8, x117000, x117001, x117002, x117003, x117004 => if x8 ≤ x1 then (spec_ResultOf.l1 k x1 x2 x7 x8 0 x117000 x117001 x117002 x117003 x117004) else (some (-1))
def spec_ResultOf.l1 : Nat → Int → Int → Int → Int → Int → ByteArray → Int → List Int → Int → List (S61) → Option (Int)
  | 0, _, _, _, _, _, _, _, _, _, _ => none
  | k + 1, x1, x2, x7, x8, x9, x117000, x117001, x117002, x117003, x117004 => if 0 ≤ x8 then (if x8 < (x117004.length : Int) then (if x9 < (((rd_T61 x117004 x8).f0).length : Int) then (if x8 = x1 then (spec_ResultOf.j3 k x1 x2 x7 x8 x9 (x9 == x2) x117000 x117001 x117002 x117003 x117004) else (spec_ResultOf.j3 k x1 x2 x7 x8 x9 false x117000 x117001 x117002 x117003 x117004)) else (spec_ResultOf.l0 k x1 x2 x7 (wrap64 (x8 + 1)) x117000 x117001 x117002 x117003 x117004)) else (none)) else (none)
def spec_ResultOf.j3 : Nat → Int → Int → Int → Int → Int → Bool → ByteArray → Int → List Int → Int → List (S61) → Option (Int)
  | 0, _, _, _, _, _, _, _, _, _, _, _ => none
  | k + 1, x1, x2, x7, x8, x9, x54, x117000, x117001, x117002, x117003, x117004 => if x54 = true then (some x7) else (if 0 ≤ x8 then (if x8 < (x117004.length : Int) then (if 0 ≤ x9 then (if x9 < (((rd_T61 x117004 x8).f0).length : Int) then (if ((rd_T58 ((rd_T61 x117004 x8).f0) x9).f1) = 0 then (spec_ResultOf.l1 k x1 x2 x7 x8 (wrap64 (x9 + 1)) x117000 x117001 x117002 x117003 x117004) else (spec_ResultOf.l1 k x1 x2 (wrap64 (x7 + 1)) x8 (wrap64 (x9 + 1)) x117000 x117001 x117002 x117003 x117004)) else (none)) else (none)) else (none)) else (none))
end
def spec_ResultOf.f (k : Nat) (a0_0 : ByteArray) (a0_1 : Int) (l0_2 : List Int) (a0_3 : Int) (l0_4 : List (S61)) (a1 : Int) (a2 : Int) : Option (Int) := (spec_l2At.f a0_0 a0_1 l0_2 a0_3 l0_4 a1 a2).bind fun t117 => (if t117 = true then (if 0 ≤ a1 then (if a1 < (l0_4.length : Int) then (if 0 ≤ a2 then (if a2 < (((rd_T61 l0_4 a1).f0).length : Int) then (spec_ResultOf.j0 k a1 a2 (((rd_T58 ((rd_T61 l0_4 a1).f0) a2).f1) == 0) a0_0 a0_1 l0_2 a0_3 l0_4) else (none)) else (none)) else (none)) else (none)) else (spec_ResultOf.j0 k a1 a2 true a0_0 a0_1 l0_2 a0_3 l0_4))
theorem spec_ResultOf.mono_l : ∀ k, (∀ y0 y1 y2 y3 y4 y5 y6 y7, LeO (spec_ResultOf.j0 k y0 y1 y2 y3 y4 y5 y6 y7) (spec_ResultOf.j0 (k + 1) y0 y1 y2 y3 y4 y5 y6 y7)) ∧ (∀ y0 y1 y2 y3 y4 y5 y6 y7 y8, LeO (spec_ResultOf.l0 k y0 y1 y2 y3 y4 y5 y6 y7 y8) (spec_ResultOf.l0 (k + 1) y0 y1 y2 y3 y4 y5 y6 y7 y8)) ∧ (∀ y0 y1 y2 y3 y4 y5 y6 y7 y8 y9, LeO (spec_ResultOf.l1 k y0 y1 y2 y3 y4 y5 y6 y7 y8 y9) (spec_ResultOf.l1 (k + 1) y0 y1 y2 y3 y4 y5 y6 y7 y8 y9)) ∧ (∀ y0 y1 y2 y3 y4 y5 y6 y7 y8 y9 y10, LeO (spec_ResultOf.j3 k y0 y1 y2 y3 y4 y5 y6 y7 y8 y9 y10) (spec_ResultOf.j3 (k + 1) y0 y1 y2 y3 y4 y5 y6 y7 y8 y9 y10))
  | 0 => ⟨fun _ _ _ _ _ _ _ _ r h => by simp [spec_ResultOf.j0] at h, fun _ _ _ _ _ _ _ _ _ r h => by simp [spec_ResultOf.l0] at h, fun _ _ _ _ _ _ _ _ _ _ r h => by simp [spec_ResultOf.l1] at h, fun _ _ _ _ _ _ _ _ _ _ _ r h => by simp [spec_ResultOf.j3] at h⟩
  | k + 1 => by
    obtain ⟨ih0, ih1, ih2, ih3⟩ := spec_ResultOf.mono_l k
    refine ⟨?_, ?_, ?_, ?_⟩
    · intro y0 y1 y2 y3 y4 y5 y6 y7
      unfold spec_ResultOf.j0
      repeat' first
      | (with_reducible exact ih0 _ _ _ _ _ _ _ _)
      | (with_reducible exact ih1 _ _ _ _ _ _ _ _ _)
      | (with_reducible exact ih2 _ _ _ _ _ _ _ _ _ _)
      | (with_reducible exact ih3 _ _ _ _ _ _ _ _ _ _ _)
      | (with_reducible exact LeO.refl _)
      | (with_reducible exact LeO.none _)
      | (with_reducible refine LeO.ite ?_ ?_)
      | (with_reducible refine LeO.bind ?_ (fun _ => ?_))
      | exact ih0 _ _ _ _ _ _ _ _
      | exact ih1 _ _ _ _ _ _ _ _ _
      | exact ih2 _ _ _ _ _ _ _ _ _ _
      | exact ih3 _ _ _ _ _ _ _ _ _ _ _
      | exact LeO.none _
      | refine LeO.ite ?_ ?_
      | refine LeO.bind ?_ (fun _ => ?_)
    · intro y0 y1 y2 y3 y4 y5 y6 y7 y8
      unfold spec_ResultOf.l0
      repeat' first
      | (with_reducible exact ih0 _ _ _ _ _ _ _ _)
      | (with_reducible exact ih1 _ _ _ _ _ _ _ _ _)
      | (with_reducible exact ih2 _ _ _ _ _ _ _ _ _ _)
      | (with_reducible exact ih3 _ _ _ _ _ _ _ _ _ _ _)
      | (with_reducible exact LeO.refl _)
      | (with_reducible exact LeO.none _)
      | (with_reducible refine LeO.ite ?_ ?_)
      | (with_reducible refine LeO.bind ?_ (fun _ => ?_))
      | exact ih0 _ _ _ _ _ _ _ _
      | exact ih1 _ _ _ _ _ _ _ _ _
      | exact ih2 _ _ _ _ _ _ _ _ _ _
      | exact ih3 _ _ _ _ _ _ _ _ _ _ _
      | exact LeO.none _
      | refine LeO.ite ?_ ?_
      | refine LeO.bind ?_ (fun _ => ?_)
    · intro y0 y1 y2 y3 y4 y5 y6 y7 y8 y9
      unfold spec_ResultOf.l1
      repeat' first
      | (with_reducible exact ih0 _ _ _ _ _ _ _ _)
      | (with_reducible exact ih1 _ _ _ _ _ _ _ _ _)
      | (with_reducible exact ih2 _ _ _ _ _ _ _ _ _ _)
      | (with_reducible exact ih3 _ _ _ _ _ _ _ _ _ _ _)
      | (with_reducible exact LeO.refl _)
      | (with_reducible exact LeO.none _)
      | (with_reducible refine LeO.ite ?_ ?_)
      | (with_reducible refine LeO.bind ?_ (fun _ => ?_))
      | exact ih0 _ _ _ _ _ _ _ _
      | exact ih1 _ _ _ _ _ _ _ _ _
      | exact ih2 _ _ _ _ _ _ _ _ _ _
      | exact ih3 _ _ _ _ _ _ _ _ _ _ _
      | exact LeO.none _
      | refine LeO.ite ?_ ?_
      | refine LeO.bind ?_ (fun _ => ?_)
    · intro y0 y1 y2 y3 y4 y5 y6 y7 y8 y9 y10
      unfold spec_ResultOf.j3
      repeat' first
      | (with_reducible exact ih0 _ _ _ _ _ _ _ _)
      | (with_reducible exact ih1 _ _ _ _ _ _ _ _ _)
      | (with_reducible exact ih2 _ _ _ _ _ _ _ _ _ _)
      | (with_reducible exact ih3 _ _ _ _ _ _ _ _ _ _ _)
      | (with_reducible exact LeO.refl _)
      | (with_reducible exact LeO.none _)
      | (with_reducible refine LeO.ite ?_ ?_)
      | (with_reducible refine LeO.bind ?_ (fun _ => ?_))
      | exact ih0 _ _ _ _ _ _ _ _
      | exact ih1 _ _ _ _ _ _ _ _ _
      | exact ih2 _ _ _ _ _ _ _ _ _ _
      | exact ih3 _ _ _ _ _ _ _ _ _ _ _
      | exact LeO.none _
      | refine LeO.ite ?_ ?_
      | refine LeO.bind ?_ (fun _ => ?_)
theorem spec_ResultOf.mono : ∀ a0 a1 a2 a3 a4 a5 a6 k, LeO (spec_ResultOf.f k a0 a1 a2 a3 a4 a5 a6) (spec_ResultOf.f (k + 1) a0 a1 a2 a3 a4 a5 a6) := by
  intro a0 a1 a2 a3 a4 a5 a6 k
  obtain ⟨ih0, ih1, ih2, ih3⟩ := spec_ResultOf.mono_l k
  unfold spec_ResultOf.f
  repeat' first
      | (with_reducible exact ih0 _ _ _ _ _ _ _ _)
      | (with_reducible exact ih1 _ _ _ _ _ _ _ _ _)
      | (with_reducible exact ih2 _ _ _ _ _ _ _ _ _ _)
      | (with_reducible exact ih3 _ _ _ _ _ _ _ _ _ _ _)
      | (with_reducible exact LeO.refl _)
      | (with_reducible exact LeO.none _)
      | (with_reducible refine LeO.ite ?_ ?_)
      | (with_reducible refine LeO.bind ?_ (fun _ => ?_))
      | exact ih0 _ _ _ _ _ _ _ _
      | exact ih1 _ _ _ _ _ _ _ _ _
      | exact ih2 _ _ _ _ _ _ _ _ _ _
      | exact ih3 _ _ _ _ _ _ _ _ _ _ _
      | exact LeO.none _
      | refine LeO.ite ?_ ?_
      | refine LeO.bind ?_ (fun _ => ?_)
set_option maxHeartbeats 8000000 in
set_option maxRecDepth 100000 in
theorem spec_ResultOf.calls (k : Nat) (a0_0 : ByteArray) (a0_1 : Int) (A0_2 : Option Addr) (c0_2 : Nat) (l0_2 : List Int) (a0_3 : Int) (A0_4 : Option Addr) (c0_4 : Nat) (l0_4 : List (S61)) (a1 : Int) (a2 : Int) (r : Int) (w : World) (hr0_2 : Kd.C (Kd.int .i64) w A0_2 l0_2.length l0_2) (hc0_2 : l0_2.length ≤ c0_2) (hr0_4 : Kd.C k61 w A0_4 l0_4.length l0_4) (hc0_4 : l0_4.length ≤ c0_4) (h : spec_ResultOf.f k a0_0 a0_1 l0_2 a0_3 l0_4 a1 a2 = some r) :
    Calls Try.prog 19 #[.agg #[.string a0_0, .int .i64 a0_1, .slice A0_2 l0_2.length c0_2, .int .i64 a0_3, .slice A0_4 l0_4.length c0_4], .int .i64 a1, .int .i64 a2] w fun e w' => e = .returned (.int .i64 r) ∧ Below w.heap.size w w' := by
  have hu32 := Try.underlying32
  have HR0_2 := Aside0.mk hr0_2
  have HC0_2 := Aside0.mk hc0_2
  clear hr0_2 hc0_2
  have HR0_4 := Aside0.mk hr0_4
  have HC0_4 := Aside0.mk hc0_4
  clear hr0_4 hc0_4
  have HB := Aside0.mk (Below.refl w.heap.size w)
  have H : ((spec_l2At.f a0_0 a0_1 l0_2 a0_3 l0_4 a1 a2).bind fun t117 => (if t117 = true then (if 0 ≤ a1 then (if a1 < (l0_4.length : Int) then (if 0 ≤ a2 then (if a2 < (((rd_T61 l0_4 a1).f0).length : Int) then (spec_ResultOf.j0 k a1 a2 (((rd_T58 ((rd_T61 l0_4 a1).f0) a2).f1) == 0) a0_0 a0_1 l0_2 a0_3 l0_4) else (none)) else (none)) else (none)) else (none)) else (spec_ResultOf.j0 k a1 a2 true a0_0 a0_1 l0_2 a0_3 l0_4))) = some r := h
  clear h
  have HC4 := Aside0.mk H
  clear H
  go_enter Try.func19, Try.ntmps19
  go_upto_region 1 with (first | ((with_reducible refine gate_dst (N := 3) rfl ?_); refine box_event ?hg (N := 3) ?hd (cs := #[.string a0_0, .int .i64 a0_1, .slice A0_2 l0_2.length c0_2, .int .i64 a0_3, .slice A0_4 l0_4.length c0_4]) (t := 32) ?hr ?_; (case hd => rfl); (case hg => rfl); (case hr => first | (go_simp; done) | (go_simp; rfl)); intro gb116 hg w5 hbox hb; have n0_ := Aside0.mk (below_step (by repeat (first | (with_reducible first | exact HB.out | apply below_alloc | apply pw_below_drewN | apply below_drew1) | exact HB.out)) hb); have n1_ := Aside0.mk (hbox); have n2_ := Aside0.mk ((by rw [hg]; exact (below_size (by repeat (first | (with_reducible first | exact HB.out | apply below_alloc | apply pw_below_drewN | apply below_drew1) | exact HB.out))) : w.heap.size ≤ gb116)); have n3_ := Aside0.mk ((by rw [hg]; exact (below_size (by repeat (first | (with_reducible first | exact HB.out | apply below_alloc | apply pw_below_drewN | apply below_drew1) | exact HB.out))) : w.heap.size ≤ gb116)); clear HB; have HB := n0_; have BK116 := n1_; have GW116 := n2_; have GE116 := n3_; clear n0_ n1_ n2_ n3_; clear hb hbox hg))
  (try simp only [Act.put, List.setIfInBounds_toArray, List.set_cons_zero, List.set_cons_succ])
  go_cut [27] (fun v27 wc => ∃ (kq : Nat) (x27_3 : Bool), v27 = .bool x27_3 ∧ Aside0 (spec_ResultOf.j0 kq a1 a2 x27_3 a0_0 a0_1 l0_2 a0_3 l0_4 = some r) ∧ Aside0 (kq ≤ k) ∧ Aside0 (wc.heap[gb116]? = some (.cells #[.string a0_0, .int .i64 a0_1, (.slice A0_2 l0_2.length c0_2), .int .i64 a0_3, (.slice A0_4 l0_4.length c0_4)] 32 (0, 0))) ∧ Aside0 (Below w.heap.size w wc))
  case first =>
    have H := HC4.out
    clear HC4
    replace H := Option.bind_eq_some_iff.mp H
    obtain ⟨t117, A60, H⟩ := H
    replace H : (if t117 = true then (if 0 ≤ a1 then (if a1 < (l0_4.length : Int) then (if 0 ≤ a2 then (if a2 < (((rd_T61 l0_4 a1).f0).length : Int) then (spec_ResultOf.j0 k a1 a2 (((rd_T58 ((rd_T61 l0_4 a1).f0) a2).f1) == 0) a0_0 a0_1 l0_2 a0_3 l0_4) else (none)) else (none)) else (none)) else (none)) else (spec_ResultOf.j0 k a1 a2 true a0_0 a0_1 l0_2 a0_3 l0_4)) = some r := H
    have A6 := Aside0.mk A60
    clear A60
    by_cases c7 : t117 = true
    · subst c7
      have H1 : (if 0 ≤ a1 then (if a1 < (l0_4.length : Int) then (if 0 ≤ a2 then (if a2 < (((rd_T61 l0_4 a1).f0).length : Int) then (spec_ResultOf.j0 k a1 a2 (((rd_T58 ((rd_T61 l0_4 a1).f0) a2).f1) == 0) a0_0 a0_1 l0_2 a0_3 l0_4) else (none)) else (none)) else (none)) else (none)) = some r := by rw [if_pos rfl] at H; exact H
      clear H
      have H := H1
      clear H1
      by_cases c8 : 0 ≤ a1
      · rw [if_pos c8] at H
        have c8b0 : decide (0 ≤ a1) = true := decide_eq_true c8
        clear c8
        (first | rw [c8b0] | (simp only [i64_w, i32_w]; rw [c8b0]) | skip)
        by_cases c9 : a1 < (l0_4.length : Int)
        · rw [if_pos c9] at H
          have c9b0 : decide (a1 < (l0_4.length : Int)) = true := decide_eq_true c9
          clear c9
          by_cases c10 : 0 ≤ a2
          · rw [if_pos c10] at H
            have c10b0 : decide (0 ≤ a2) = true := decide_eq_true c10
            clear c10
            by_cases c11 : a2 < (((rd_T61 l0_4 a1).f0).length : Int)
            · rw [if_pos c11] at H
              have c11b0 : decide (a2 < (((rd_T61 l0_4 a1).f0).length : Int)) = true := decide_eq_true c11
              clear c11
              have H' := Aside0.mk H
              clear H
              have hcz12_0 : w5.cell? ⟨gb116, 0, none⟩ = some (.string a0_0) := (blk_cell BK116.out 0).trans rfl
              have hcz12_1 : w5.cell? ⟨gb116, 1, none⟩ = some (.int .i64 a0_1) := (blk_cell BK116.out 1).trans rfl
              have hcz12_2 : w5.cell? ⟨gb116, 2, none⟩ = some (.slice A0_2 l0_2.length c0_2) := (blk_cell BK116.out 2).trans rfl
              have hcz12_3 : w5.cell? ⟨gb116, 3, none⟩ = some (.int .i64 a0_3) := (blk_cell BK116.out 3).trans rfl
              have hcz12_4 : w5.cell? ⟨gb116, 4, none⟩ = some (.slice A0_4 l0_4.length c0_4) := (blk_cell BK116.out 4).trans rfl
              have hfz12_0 := blk_frozen BK116.out 0
              have hfz12_1 := blk_frozen BK116.out 1
              have hfz12_2 := blk_frozen BK116.out 2
              have hfz12_3 := blk_frozen BK116.out 3
              have hfz12_4 := blk_frozen BK116.out 4
              go_wp2_with (first | ((with_reducible refine gate_callee (f := 42) rfl ?_); refine goesL_ (some 13) rfl rfl Try.func42 (by kernel_rfl) rfl #[.agg #[.string a0_0, .int .i64 a0_1, .slice A0_2 l0_2.length c0_2, .int .i64 a0_3, .slice A0_4 l0_4.length c0_4], .int .i64 a1, .int .i64 a2] rfl (by (try simp only [List.map_toArray, List.map_cons, List.map_nil]); first | done | rfl | (simp only [List.length_drop, List.length_take]; rfl)) ?_; (with_reducible refine (spec_l2At.calls a0_0 a0_1 _ _ l0_2 a0_3 _ _ l0_4 a1 a2 true _ ?side1 ?side2 ?side3 ?side4 A6.out).mono ?_); (case side1 => repeat (first | exact (Kd.C_below HR0_2.out HB.out) | (with_reducible refine Kd.C_alloc ?_ _) | (with_reducible refine Kd.C_drewN ?_ _) | (with_reducible refine Kd.C_drew ?_))); (case side2 => exact HC0_2.out); (case side3 => repeat (first | exact (Kd.C_below HR0_4.out HB.out) | (with_reducible refine Kd.C_alloc ?_ _) | (with_reducible refine Kd.C_drewN ?_ _) | (with_reducible refine Kd.C_drew ?_))); (case side4 => exact HC0_4.out); rintro e w13 ⟨rfl, hb⟩; refine ⟨_, rfl, ?_⟩; have n0_ := Aside0.mk (blk_below (g := gb116) (o := .cells #[.string a0_0, .int .i64 a0_1, .slice A0_2 l0_2.length c0_2, .int .i64 a0_3, .slice A0_4 l0_4.length c0_4] 32 (0, 0)) (by (with_reducible repeat (first | refine blk_drewN ?_ _ | refine blk_drew ?_ | refine blk_alloc ?_ _)); exact BK116.out) hb); have n1_ := Aside0.mk (below_step (by repeat (first | (with_reducible first | exact HB.out | apply below_alloc | apply pw_below_drewN | apply below_drew1 | refine below_set ?_ GE116.out) | exact HB.out)) hb); clear BK116; clear HB; have BK116 := n0_; have HB := n1_; clear n0_ n1_; (try clear hb); (try clear hb2); (try clear hk); (try clear hi); have hcz14_0 : w13.cell? ⟨gb116, 0, none⟩ = some (.string a0_0) := (blk_cell BK116.out 0).trans rfl; have hcz14_1 : w13.cell? ⟨gb116, 1, none⟩ = some (.int .i64 a0_1) := (blk_cell BK116.out 1).trans rfl; have hcz14_2 : w13.cell? ⟨gb116, 2, none⟩ = some (.slice A0_2 l0_2.length c0_2) := (blk_cell BK116.out 2).trans rfl; have hcz14_3 : w13.cell? ⟨gb116, 3, none⟩ = some (.int .i64 a0_3) := (blk_cell BK116.out 3).trans rfl; have hcz14_4 : w13.cell? ⟨gb116, 4, none⟩ = some (.slice A0_4 l0_4.length c0_4) := (blk_cell BK116.out 4).trans rfl; have hfz14_0 := blk_frozen BK116.out 0; have hfz14_1 := blk_frozen BK116.out 1; have hfz14_2 := blk_frozen BK116.out 2; have hfz14_3 := blk_frozen BK116.out 3; have hfz14_4 := blk_frozen BK116.out 4; have p118 : 0 ≤ (a1 : Int) := of_decide_eq_true (by first | (with_reducible assumption) | assumption); have q118 : a1 < (l0_4.length : Int) := of_decide_eq_true (by first | (with_reducible assumption) | assumption); obtain ⟨ad118, A118_0, c118_0, e118, hx118_0, hl118_0, hi118_0⟩ := at_T61 HR0_4.out a1 p118 q118; cases e118; replace hx118_0 := (HB.out.cell (World.block_lt_of_cell? w _ hx118_0)).trans hx118_0; have HR118_0 := Aside0.mk hi118_0; have HC118_0 := Aside0.mk hl118_0; clear hi118_0 hl118_0; replace p118 := eq_true p118; replace q118 := eq_true q118; have p119 : 0 ≤ (a2 : Int) := of_decide_eq_true (by first | (with_reducible assumption) | assumption); have q119 : a2 < (((rd_T61 l0_4 a1).f0).length : Int) := of_decide_eq_true (by first | (with_reducible assumption) | assumption); obtain ⟨ad119, A119_6, c119_6, A119_7, c119_7, A119_8, c119_8, e119, hx119_0, hx119_1, hx119_2, hx119_3, hx119_4, hx119_5, hx119_6, hx119_7, hx119_8, hl119_6, hi119_6, hl119_7, hi119_7, hl119_8, hi119_8⟩ := at_T58 HR118_0.out a2 p119 q119; cases e119; replace hx119_0 := (HB.out.cell (World.block_lt_of_cell? w _ hx119_0)).trans hx119_0; replace hx119_1 := (HB.out.cell (World.block_lt_of_cell? w _ hx119_1)).trans hx119_1; replace hx119_2 := (HB.out.cell (World.block_lt_of_cell? w _ hx119_2)).trans hx119_2; replace hx119_3 := (HB.out.cell (World.block_lt_of_cell? w _ hx119_3)).trans hx119_3; replace hx119_4 := (HB.out.cell (World.block_lt_of_cell? w _ hx119_4)).trans hx119_4; replace hx119_5 := (HB.out.cell (World.block_lt_of_cell? w _ hx119_5)).trans hx119_5; replace hx119_6 := (HB.out.cell (World.block_lt_of_cell? w _ hx119_6)).trans hx119_6; replace hx119_7 := (HB.out.cell (World.block_lt_of_cell? w _ hx119_7)).trans hx119_7; replace hx119_8 := (HB.out.cell (World.block_lt_of_cell? w _ hx119_8)).trans hx119_8; have HR119_6 := Aside0.mk hi119_6; have HC119_6 := Aside0.mk hl119_6; clear hi119_6 hl119_6; have HR119_7 := Aside0.mk hi119_7; have HC119_7 := Aside0.mk hl119_7; clear hi119_7 hl119_7; have HR119_8 := Aside0.mk hi119_8; have HC119_8 := Aside0.mk hl119_8; clear hi119_8 hl119_8; replace p119 := eq_true p119; replace q119 := eq_true q119))
              go_meet
              case rel => exact ⟨_, ((((rd_T58 ((rd_T61 l0_4 a1).f0) a2).f1) == 0)), (by first | rfl | (simp; done) | (simp [*]; done)), H', ⟨by first | omega | exact Nat.le_refl _⟩, ⟨by (with_reducible repeat (first | refine blk_drewN ?_ _ | refine blk_drew ?_ | refine blk_alloc ?_ _)); exact BK116.out⟩, ⟨by repeat (first | (with_reducible first | exact HB.out | apply below_alloc | apply pw_below_drewN | apply below_drew1 | refine below_set ?_ GE116.out) | exact HB.out)⟩⟩
            · rw [if_neg c11] at H
              exact absurd H (by simp)
          · rw [if_neg c10] at H
            exact absurd H (by simp)
        · rw [if_neg c9] at H
          exact absurd H (by simp)
      · rw [if_neg c8] at H
        exact absurd H (by simp)
    · replace c7 := Bool.eq_false_iff.mpr c7
      subst c7
      have H1 : (spec_ResultOf.j0 k a1 a2 true a0_0 a0_1 l0_2 a0_3 l0_4) = some r := by rw [if_neg (show ¬ (false = true) by decide)] at H; exact H
      clear H
      have H := H1
      clear H1
      have H' := Aside0.mk H
      clear H
      have hcz15_0 : w5.cell? ⟨gb116, 0, none⟩ = some (.string a0_0) := (blk_cell BK116.out 0).trans rfl
      have hcz15_1 : w5.cell? ⟨gb116, 1, none⟩ = some (.int .i64 a0_1) := (blk_cell BK116.out 1).trans rfl
      have hcz15_2 : w5.cell? ⟨gb116, 2, none⟩ = some (.slice A0_2 l0_2.length c0_2) := (blk_cell BK116.out 2).trans rfl
      have hcz15_3 : w5.cell? ⟨gb116, 3, none⟩ = some (.int .i64 a0_3) := (blk_cell BK116.out 3).trans rfl
      have hcz15_4 : w5.cell? ⟨gb116, 4, none⟩ = some (.slice A0_4 l0_4.length c0_4) := (blk_cell BK116.out 4).trans rfl
      have hfz15_0 := blk_frozen BK116.out 0
      have hfz15_1 := blk_frozen BK116.out 1
      have hfz15_2 := blk_frozen BK116.out 2
      have hfz15_3 := blk_frozen BK116.out 3
      have hfz15_4 := blk_frozen BK116.out 4
      go_wp2_with (first | ((with_reducible refine gate_callee (f := 42) rfl ?_); refine goesL_ (some 13) rfl rfl Try.func42 (by kernel_rfl) rfl #[.agg #[.string a0_0, .int .i64 a0_1, .slice A0_2 l0_2.length c0_2, .int .i64 a0_3, .slice A0_4 l0_4.length c0_4], .int .i64 a1, .int .i64 a2] rfl (by (try simp only [List.map_toArray, List.map_cons, List.map_nil]); first | done | rfl | (simp only [List.length_drop, List.length_take]; rfl)) ?_; (with_reducible refine (spec_l2At.calls a0_0 a0_1 _ _ l0_2 a0_3 _ _ l0_4 a1 a2 false _ ?side1 ?side2 ?side3 ?side4 A6.out).mono ?_); (case side1 => repeat (first | exact (Kd.C_below HR0_2.out HB.out) | (with_reducible refine Kd.C_alloc ?_ _) | (with_reducible refine Kd.C_drewN ?_ _) | (with_reducible refine Kd.C_drew ?_))); (case side2 => exact HC0_2.out); (case side3 => repeat (first | exact (Kd.C_below HR0_4.out HB.out) | (with_reducible refine Kd.C_alloc ?_ _) | (with_reducible refine Kd.C_drewN ?_ _) | (with_reducible refine Kd.C_drew ?_))); (case side4 => exact HC0_4.out); rintro e w16 ⟨rfl, hb⟩; refine ⟨_, rfl, ?_⟩; have n0_ := Aside0.mk (blk_below (g := gb116) (o := .cells #[.string a0_0, .int .i64 a0_1, .slice A0_2 l0_2.length c0_2, .int .i64 a0_3, .slice A0_4 l0_4.length c0_4] 32 (0, 0)) (by (with_reducible repeat (first | refine blk_drewN ?_ _ | refine blk_drew ?_ | refine blk_alloc ?_ _)); exact BK116.out) hb); have n1_ := Aside0.mk (below_step (by repeat (first | (with_reducible first | exact HB.out | apply below_alloc | apply pw_below_drewN | apply below_drew1 | refine below_set ?_ GE116.out) | exact HB.out)) hb); clear BK116; clear HB; have BK116 := n0_; have HB := n1_; clear n0_ n1_; (try clear hb); (try clear hb2); (try clear hk); (try clear hi)))
      go_meet
      case rel => exact ⟨_, (true), (by first | rfl | (simp; done) | (simp [*]; done)), H', ⟨by first | omega | exact Nat.le_refl _⟩, ⟨by (with_reducible repeat (first | refine blk_drewN ?_ _ | refine blk_drew ?_ | refine blk_alloc ?_ _)); exact BK116.out⟩, ⟨by repeat (first | (with_reducible first | exact HB.out | apply below_alloc | apply pw_below_drewN | apply below_drew1 | refine below_set ?_ GE116.out) | exact HB.out)⟩⟩
  case rest =>
    clear HC4
    try clear c1
    try clear p1
    try clear q1
    try clear hx1
    try clear p2
    try clear c4
    try clear c7
    try clear c8
    try clear c8b0
    try clear c9
    try clear c9b0
    try clear c10
    try clear c10b0
    try clear c11
    try clear c11b0
    try clear p11
    try clear q11
    try clear hx11
    try clear hcz12_0
    try clear hcz12_1
    try clear hcz12_2
    try clear hcz12_3
    try clear hcz12_4
    try clear hcz14_0
    try clear hcz14_1
    try clear hcz14_2
    try clear hcz14_3
    try clear hcz14_4
    try clear hcz15_0
    try clear hcz15_1
    try clear hcz15_2
    try clear hcz15_3
    try clear hcz15_4
    try clear hfz12_0
    try clear hfz12_1
    try clear hfz12_2
    try clear hfz12_3
    try clear hfz12_4
    try clear hfz14_0
    try clear hfz14_1
    try clear hfz14_2
    try clear hfz14_3
    try clear hfz14_4
    try clear hfz15_0
    try clear hfz15_1
    try clear hfz15_2
    try clear hfz15_3
    try clear hfz15_4
    try clear hx118_0
    try clear hx119_0
    try clear hx119_1
    try clear hx119_2
    try clear hx119_3
    try clear hx119_4
    try clear hx119_5
    try clear hx119_6
    try clear hx119_7
    try clear hx119_8
    try clear p118
    try clear p119
    try clear q118
    try clear q119
    obtain ⟨kq, x27_3, rfl, HA, HJ3, BK116, HB⟩ := hcut
    cases kq with
    | zero => exact absurd HA.out (by simp [spec_ResultOf.j0])
    | succ kj3 =>
      have H := HA.out
      clear HA
      simp only [spec_ResultOf.j0] at H
      by_cases c17 : x27_3 = true
      · subst c17
        have H1 : (some (-1)) = some r := by rw [if_pos rfl] at H; exact H
        clear H
        have H := H1
        clear H1
        obtain rfl := Option.some.inj H
        go_wp2
        go_ret
        exact ⟨by first | rfl | (simp [errW_none, errW_some] <;> rfl) | (simp [*, errW_none, errW_some] <;> rfl), by repeat (first | (with_reducible first | exact HB.out | apply below_alloc | apply pw_below_drewN | apply below_drew1 | refine below_set ?_ GE116.out) | exact HB.out)⟩
      · replace c17 := Bool.eq_false_iff.mpr c17
        subst c17
        have H1 : (spec_ResultOf.l0 kj3 a1 a2 (l0_2.length : Int) 0 a0_0 a0_1 l0_2 a0_3 l0_4) = some r := by rw [if_neg (show ¬ (false = true) by decide)] at H; exact H
        clear H
        have H := H1
        clear H1
        have H' := Aside0.mk H
        clear H
        have hcz18_0 : wc.cell? ⟨gb116, 0, none⟩ = some (.string a0_0) := (blk_cell BK116.out 0).trans rfl
        have hcz18_1 : wc.cell? ⟨gb116, 1, none⟩ = some (.int .i64 a0_1) := (blk_cell BK116.out 1).trans rfl
        have hcz18_2 : wc.cell? ⟨gb116, 2, none⟩ = some (.slice A0_2 l0_2.length c0_2) := (blk_cell BK116.out 2).trans rfl
        have hcz18_3 : wc.cell? ⟨gb116, 3, none⟩ = some (.int .i64 a0_3) := (blk_cell BK116.out 3).trans rfl
        have hcz18_4 : wc.cell? ⟨gb116, 4, none⟩ = some (.slice A0_4 l0_4.length c0_4) := (blk_cell BK116.out 4).trans rfl
        have hfz18_0 := blk_frozen BK116.out 0
        have hfz18_1 := blk_frozen BK116.out 1
        have hfz18_2 := blk_frozen BK116.out 2
        have hfz18_3 := blk_frozen BK116.out 3
        have hfz18_4 := blk_frozen BK116.out 4
        go_wp2
        go_loopg [7, 8] kj3 (fun kq v7 v8 w' => ∃ (x7_2 : Int) (x8_2 : Int), v7 = .int .i64 x7_2 ∧ v8 = .int .i64 x8_2 ∧ Aside0 (spec_ResultOf.l0 kq a1 a2 x7_2 x8_2 a0_0 a0_1 l0_2 a0_3 l0_4 = some r) ∧ Aside0 (kq ≤ kj3) ∧ Aside0 (w'.heap[gb116]? = some (.cells #[.string a0_0, .int .i64 a0_1, (.slice A0_2 l0_2.length c0_2), .int .i64 a0_3, (.slice A0_4 l0_4.length c0_4)] 32 (0, 0))) ∧ Aside0 (Below w.heap.size w w'))
        case atStart => exact ⟨((l0_2.length : Int)), (0), (by first | rfl | (simp; done) | (simp [*]; done)), (by first | rfl | (simp; done) | (simp [*]; done)), H', ⟨Nat.le_refl _⟩, ⟨by (with_reducible repeat (first | refine blk_drewN ?_ _ | refine blk_drew ?_ | refine blk_alloc ?_ _)); exact BK116.out⟩, ⟨by repeat (first | (with_reducible first | exact HB.out | apply below_alloc | apply pw_below_drewN | apply below_drew1 | refine below_set ?_ GE116.out) | exact HB.out)⟩⟩
        case round =>
          clear H'
          try clear c1
          try clear p1
          try clear q1
          try clear hx1
          try clear p2
          try clear c4
          try clear c7
          try clear c8
          try clear c8b0
          try clear c9
          try clear c9b0
          try clear c10
          try clear c10b0
          try clear c11
          try clear c11b0
          try clear p11
          try clear q11
          try clear hx11
          try clear c17
          try clear hcz12_0
          try clear hcz12_1
          try clear hcz12_2
          try clear hcz12_3
          try clear hcz12_4
          try clear hcz14_0
          try clear hcz14_1
          try clear hcz14_2
          try clear hcz14_3
          try clear hcz14_4
          try clear hcz15_0
          try clear hcz15_1
          try clear hcz15_2
          try clear hcz15_3
          try clear hcz15_4
          try clear hcz18_0
          try clear hcz18_1
          try clear hcz18_2
          try clear hcz18_3
          try clear hcz18_4
          try clear hfz12_0
          try clear hfz12_1
          try clear hfz12_2
          try clear hfz12_3
          try clear hfz12_4
          try clear hfz14_0
          try clear hfz14_1
          try clear hfz14_2
          try clear hfz14_3
          try clear hfz14_4
          try clear hfz15_0
          try clear hfz15_1
          try clear hfz15_2
          try clear hfz15_3
          try clear hfz15_4
          try clear hfz18_0
          try clear hfz18_1
          try clear hfz18_2
          try clear hfz18_3
          try clear hfz18_4
          try clear hx118_0
          try clear hx119_0
          try clear hx119_1
          try clear hx119_2
          try clear hx119_3
          try clear hx119_4
          try clear hx119_5
          try clear hx119_6
          try clear hx119_7
          try clear hx119_8
          try clear p1
          try clear p11
          try clear p118
          try clear p119
          try clear p2
          try clear q1
          try clear q11
          try clear q118
          try clear q119
          obtain ⟨x7_2, x8_2, rfl, rfl, HA, HK2, BK116, HB⟩ := hrel
          cases gk with
          | zero => exact absurd HA.out (by simp [spec_ResultOf.l0])
          | succ k2 =>
            have H := HA.out
            clear HA
            simp only [spec_ResultOf.l0] at H
            by_cases c19 : x8_2 ≤ a1
            · rw [if_pos c19] at H
              have c19b0 : decide (x8_2 ≤ a1) = true := decide_eq_true c19
              clear c19
              have H' := Aside0.mk H
              clear H
              go_wp2
              go_loopg [7, 9] k2 (fun kq v7 v9 w' => ∃ (x7_3 : Int) (x9_3 : Int), v7 = .int .i64 x7_3 ∧ v9 = .int .i64 x9_3 ∧ Aside0 (spec_ResultOf.l1 kq a1 a2 x7_3 x8_2 x9_3 a0_0 a0_1 l0_2 a0_3 l0_4 = some r) ∧ Aside0 (kq ≤ k2) ∧ Aside0 (w'.heap[gb116]? = some (.cells #[.string a0_0, .int .i64 a0_1, (.slice A0_2 l0_2.length c0_2), .int .i64 a0_3, (.slice A0_4 l0_4.length c0_4)] 32 (0, 0))) ∧ Aside0 (Below w.heap.size w w'))
              case atStart => exact ⟨(x7_2), (0), (by first | rfl | (simp; done) | (simp [*]; done)), (by first | rfl | (simp; done) | (simp [*]; done)), H', ⟨Nat.le_refl _⟩, ⟨by (with_reducible repeat (first | refine blk_drewN ?_ _ | refine blk_drew ?_ | refine blk_alloc ?_ _)); exact BK116.out⟩, ⟨by repeat (first | (with_reducible first | exact HB.out | apply below_alloc | apply pw_below_drewN | apply below_drew1 | refine below_set ?_ GE116.out) | exact HB.out)⟩⟩
              case round =>
                clear H'
                try clear c1
                try clear p1
                try clear q1
                try clear hx1
                try clear p2
                try clear c4
                try clear c7
                try clear c8
                try clear c8b0
                try clear c9
                try clear c9b0
                try clear c10
                try clear c10b0
                try clear c11
                try clear c11b0
                try clear p11
                try clear q11
                try clear hx11
                try clear c17
                try clear c19
                try clear c19b0
                try clear hcz12_0
                try clear hcz12_1
                try clear hcz12_2
                try clear hcz12_3
                try clear hcz12_4
                try clear hcz14_0
                try clear hcz14_1
                try clear hcz14_2
                try clear hcz14_3
                try clear hcz14_4
                try clear hcz15_0
                try clear hcz15_1
                try clear hcz15_2
                try clear hcz15_3
                try clear hcz15_4
                try clear hcz18_0
                try clear hcz18_1
                try clear hcz18_2
                try clear hcz18_3
                try clear hcz18_4
                try clear hfz12_0
                try clear hfz12_1
                try clear hfz12_2
                try clear hfz12_3
                try clear hfz12_4
                try clear hfz14_0
                try clear hfz14_1
                try clear hfz14_2
                try clear hfz14_3
                try clear hfz14_4
                try clear hfz15_0
                try clear hfz15_1
                try clear hfz15_2
                try clear hfz15_3
                try clear hfz15_4
                try clear hfz18_0
                try clear hfz18_1
                try clear hfz18_2
                try clear hfz18_3
                try clear hfz18_4
                try clear hx118_0
                try clear hx119_0
                try clear hx119_1
                try clear hx119_2
                try clear hx119_3
                try clear hx119_4
                try clear hx119_5
                try clear hx119_6
                try clear hx119_7
                try clear hx119_8
                try clear p1
                try clear p11
                try clear p118
                try clear p119
                try clear p2
                try clear q1
                try clear q11
                try clear q118
                try clear q119
                obtain ⟨x7_3, x9_3, rfl, rfl, HA, HK3, BK116, HB⟩ := hrel
                cases gk with
                | zero => exact absurd HA.out (by simp [spec_ResultOf.l1])
                | succ k3 =>
                  have H := HA.out
                  clear HA
                  simp only [spec_ResultOf.l1] at H
                  by_cases c20 : 0 ≤ x8_2
                  · rw [if_pos c20] at H
                    have c20b0 : decide (0 ≤ x8_2) = true := decide_eq_true c20
                    clear c20
                    by_cases c21 : x8_2 < (l0_4.length : Int)
                    · rw [if_pos c21] at H
                      have c21b0 : decide (x8_2 < (l0_4.length : Int)) = true := decide_eq_true c21
                      clear c21
                      by_cases c22 : x9_3 < (((rd_T61 l0_4 x8_2).f0).length : Int)
                      · rw [if_pos c22] at H
                        have c22b0 : decide (x9_3 < (((rd_T61 l0_4 x8_2).f0).length : Int)) = true := decide_eq_true c22
                        clear c22
                        have HC23 := Aside0.mk H
                        clear H
                        have hcz24_0 : wr.cell? ⟨gb116, 0, none⟩ = some (.string a0_0) := (blk_cell BK116.out 0).trans rfl
                        have hcz24_1 : wr.cell? ⟨gb116, 1, none⟩ = some (.int .i64 a0_1) := (blk_cell BK116.out 1).trans rfl
                        have hcz24_2 : wr.cell? ⟨gb116, 2, none⟩ = some (.slice A0_2 l0_2.length c0_2) := (blk_cell BK116.out 2).trans rfl
                        have hcz24_3 : wr.cell? ⟨gb116, 3, none⟩ = some (.int .i64 a0_3) := (blk_cell BK116.out 3).trans rfl
                        have hcz24_4 : wr.cell? ⟨gb116, 4, none⟩ = some (.slice A0_4 l0_4.length c0_4) := (blk_cell BK116.out 4).trans rfl
                        have hfz24_0 := blk_frozen BK116.out 0
                        have hfz24_1 := blk_frozen BK116.out 1
                        have hfz24_2 := blk_frozen BK116.out 2
                        have hfz24_3 := blk_frozen BK116.out 3
                        have hfz24_4 := blk_frozen BK116.out 4
                        have p120 : 0 ≤ (x8_2 : Int) := of_decide_eq_true (by first | (with_reducible assumption) | assumption)
                        have q120 : x8_2 < (l0_4.length : Int) := of_decide_eq_true (by first | (with_reducible assumption) | assumption)
                        obtain ⟨ad120, A120_0, c120_0, e120, hx120_0, hl120_0, hi120_0⟩ := at_T61 HR0_4.out x8_2 p120 q120
                        cases e120
                        replace hx120_0 := (HB.out.cell (World.block_lt_of_cell? w _ hx120_0)).trans hx120_0
                        have HR120_0 := Aside0.mk hi120_0
                        have HC120_0 := Aside0.mk hl120_0
                        clear hi120_0 hl120_0
                        replace p120 := eq_true p120
                        replace q120 := eq_true q120
                        go_upto_region 10 with (fail)
                        go_cut [54] (fun v54 wc => ∃ (kq : Nat) (x54_22 : Bool), v54 = .bool x54_22 ∧ Aside0 (spec_ResultOf.j3 kq a1 a2 x7_3 x8_2 x9_3 x54_22 a0_0 a0_1 l0_2 a0_3 l0_4 = some r) ∧ Aside0 (kq ≤ k3) ∧ Aside0 (wc.heap[gb116]? = some (.cells #[.string a0_0, .int .i64 a0_1, (.slice A0_2 l0_2.length c0_2), .int .i64 a0_3, (.slice (some ad120) l0_4.length c0_4)] 32 (0, 0))) ∧ Aside0 (Below w.heap.size w wc))
                        case first =>
                          have H := HC23.out
                          clear HC23
                          by_cases c25 : x8_2 = a1
                          · rw [if_pos c25] at H
                            have c25b0 : (x8_2 == a1) = true := beq_iff_eq.mpr c25
                            have c25b1 : (x8_2 != a1) = false := bne_eq_false_iff_eq.mpr c25
                            clear c25
                            (first | rw [c25b0] | (simp only [i64_w, i32_w]; rw [c25b0]) | skip)
                            have H' := Aside0.mk H
                            clear H
                            go_wp2
                            go_meet
                            case rel => exact ⟨_, ((x9_3 == a2)), (by first | rfl | (simp; done) | (simp [*]; done)), H', ⟨by have := HJ3.out; have := HK2.out; have := HK3.out; first | omega | exact Nat.le_refl _⟩, ⟨by (with_reducible repeat (first | refine blk_drewN ?_ _ | refine blk_drew ?_ | refine blk_alloc ?_ _)); exact BK116.out⟩, ⟨by repeat (first | (with_reducible first | exact HB.out | apply below_alloc | apply pw_below_drewN | apply below_drew1 | refine below_set ?_ GE116.out) | exact HB.out)⟩⟩
                          · rw [if_neg c25] at H
                            have c25b0 : (x8_2 == a1) = false := beq_eq_false_iff_ne.mpr c25
                            have c25b1 : (x8_2 != a1) = true := bne_iff_ne.mpr c25
                            (first | rw [c25b0] | (simp only [i64_w, i32_w]; rw [c25b0]) | skip)
                            have H' := Aside0.mk H
                            clear H
                            go_wp2
                            go_meet
                            case rel => exact ⟨_, (false), (by first | rfl | (simp; done) | (simp [*]; done)), H', ⟨by have := HJ3.out; have := HK2.out; have := HK3.out; first | omega | exact Nat.le_refl _⟩, ⟨by (with_reducible repeat (first | refine blk_drewN ?_ _ | refine blk_drew ?_ | refine blk_alloc ?_ _)); exact BK116.out⟩, ⟨by repeat (first | (with_reducible first | exact HB.out | apply below_alloc | apply pw_below_drewN | apply below_drew1 | refine below_set ?_ GE116.out) | exact HB.out)⟩⟩
                        case rest =>
                          clear HC23
                          try clear c1
                          try clear p1
                          try clear q1
                          try clear hx1
                          try clear c2
                          try clear p2
                          try clear c4
                          try clear c7
                          try clear c8
                          try clear c8b0
                          try clear c9
                          try clear c9b0
                          try clear c10
                          try clear c10b0
                          try clear c11
                          try clear c11b0
                          try clear p11
                          try clear q11
                          try clear hx11
                          try clear c12
                          try clear p12
                          try clear q12
                          try clear hx12
                          try clear c17
                          try clear c19
                          try clear c19b0
                          try clear c20
                          try clear c20b0
                          try clear c21
                          try clear c21b0
                          try clear c22
                          try clear c22b0
                          try clear c25
                          try clear c25b0
                          try clear c25b1
                          try clear hcz12_0
                          try clear hcz12_1
                          try clear hcz12_2
                          try clear hcz12_3
                          try clear hcz12_4
                          try clear hcz14_0
                          try clear hcz14_1
                          try clear hcz14_2
                          try clear hcz14_3
                          try clear hcz14_4
                          try clear hcz15_0
                          try clear hcz15_1
                          try clear hcz15_2
                          try clear hcz15_3
                          try clear hcz15_4
                          try clear hcz18_0
                          try clear hcz18_1
                          try clear hcz18_2
                          try clear hcz18_3
                          try clear hcz18_4
                          try clear hcz24_0
                          try clear hcz24_1
                          try clear hcz24_2
                          try clear hcz24_3
                          try clear hcz24_4
                          try clear hfz12_0
                          try clear hfz12_1
                          try clear hfz12_2
                          try clear hfz12_3
                          try clear hfz12_4
                          try clear hfz14_0
                          try clear hfz14_1
                          try clear hfz14_2
                          try clear hfz14_3
                          try clear hfz14_4
                          try clear hfz15_0
                          try clear hfz15_1
                          try clear hfz15_2
                          try clear hfz15_3
                          try clear hfz15_4
                          try clear hfz18_0
                          try clear hfz18_1
                          try clear hfz18_2
                          try clear hfz18_3
                          try clear hfz18_4
                          try clear hfz24_0
                          try clear hfz24_1
                          try clear hfz24_2
                          try clear hfz24_3
                          try clear hfz24_4
                          try clear hx118_0
                          try clear hx119_0
                          try clear hx119_1
                          try clear hx119_2
                          try clear hx119_3
                          try clear hx119_4
                          try clear hx119_5
                          try clear hx119_6
                          try clear hx119_7
                          try clear hx119_8
                          try clear hx120_0
                          try clear p1
                          try clear p11
                          try clear p118
                          try clear p119
                          try clear p120
                          try clear p2
                          try clear q1
                          try clear q11
                          try clear q118
                          try clear q119
                          try clear q120
                          obtain ⟨kq, x54_22, rfl, HA, HJ22, BK116, HB⟩ := hcut
                          cases kq with
                          | zero => exact absurd HA.out (by simp [spec_ResultOf.j3])
                          | succ kj22 =>
                            have H := HA.out
                            clear HA
                            simp only [spec_ResultOf.j3] at H
                            by_cases c26 : x54_22 = true
                            · subst c26
                              have H1 : (some x7_3) = some r := by rw [if_pos rfl] at H; exact H
                              clear H
                              have H := H1
                              clear H1
                              obtain rfl := Option.some.inj H
                              go_wp2
                              go_ret
                              exact ⟨by first | rfl | (simp [errW_none, errW_some] <;> rfl) | (simp [*, errW_none, errW_some] <;> rfl), by repeat (first | (with_reducible first | exact HB.out | apply below_alloc | apply pw_below_drewN | apply below_drew1 | refine below_set ?_ GE116.out) | exact HB.out)⟩
                            · replace c26 := Bool.eq_false_iff.mpr c26
                              subst c26
                              have H1 : (if 0 ≤ x8_2 then (if x8_2 < (l0_4.length : Int) then (if 0 ≤ x9_3 then (if x9_3 < (((rd_T61 l0_4 x8_2).f0).length : Int) then (if ((rd_T58 ((rd_T61 l0_4 x8_2).f0) x9_3).f1) = 0 then (spec_ResultOf.l1 kj22 a1 a2 x7_3 x8_2 (wrap64 (x9_3 + 1)) a0_0 a0_1 l0_2 a0_3 l0_4) else (spec_ResultOf.l1 kj22 a1 a2 (wrap64 (x7_3 + 1)) x8_2 (wrap64 (x9_3 + 1)) a0_0 a0_1 l0_2 a0_3 l0_4)) else (none)) else (none)) else (none)) else (none)) = some r := by rw [if_neg (show ¬ (false = true) by decide)] at H; exact H
                              clear H
                              have H := H1
                              clear H1
                              by_cases c27 : 0 ≤ x8_2
                              · rw [if_pos c27] at H
                                have c27b0 : decide (0 ≤ x8_2) = true := decide_eq_true c27
                                clear c27
                                by_cases c28 : x8_2 < (l0_4.length : Int)
                                · rw [if_pos c28] at H
                                  have c28b0 : decide (x8_2 < (l0_4.length : Int)) = true := decide_eq_true c28
                                  clear c28
                                  by_cases c29 : 0 ≤ x9_3
                                  · rw [if_pos c29] at H
                                    have c29b0 : decide (0 ≤ x9_3) = true := decide_eq_true c29
                                    clear c29
                                    by_cases c30 : x9_3 < (((rd_T61 l0_4 x8_2).f0).length : Int)
                                    · rw [if_pos c30] at H
                                      have c30b0 : decide (x9_3 < (((rd_T61 l0_4 x8_2).f0).length : Int)) = true := decide_eq_true c30
                                      clear c30
                                      by_cases c31 : ((rd_T58 ((rd_T61 l0_4 x8_2).f0) x9_3).f1) = 0
                                      · rw [if_pos c31] at H
                                        have c31b0 : (((rd_T58 ((rd_T61 l0_4 x8_2).f0) x9_3).f1) == 0) = true := beq_iff_eq.mpr c31
                                        have c31b1 : (((rd_T58 ((rd_T61 l0_4 x8_2).f0) x9_3).f1) != 0) = false := bne_eq_false_iff_eq.mpr c31
                                        clear c31
                                        have H' := Aside0.mk H
                                        clear H
                                        have hcz32_0 : wc.cell? ⟨gb116, 0, none⟩ = some (.string a0_0) := (blk_cell BK116.out 0).trans rfl
                                        have hcz32_1 : wc.cell? ⟨gb116, 1, none⟩ = some (.int .i64 a0_1) := (blk_cell BK116.out 1).trans rfl
                                        have hcz32_2 : wc.cell? ⟨gb116, 2, none⟩ = some (.slice A0_2 l0_2.length c0_2) := (blk_cell BK116.out 2).trans rfl
                                        have hcz32_3 : wc.cell? ⟨gb116, 3, none⟩ = some (.int .i64 a0_3) := (blk_cell BK116.out 3).trans rfl
                                        have hcz32_4 : wc.cell? ⟨gb116, 4, none⟩ = some (.slice (some ad120) l0_4.length c0_4) := (blk_cell BK116.out 4).trans rfl
                                        have hfz32_0 := blk_frozen BK116.out 0
                                        have hfz32_1 := blk_frozen BK116.out 1
                                        have hfz32_2 := blk_frozen BK116.out 2
                                        have hfz32_3 := blk_frozen BK116.out 3
                                        have hfz32_4 := blk_frozen BK116.out 4
                                        have p121 : 0 ≤ (x8_2 : Int) := of_decide_eq_true (by first | (with_reducible assumption) | assumption)
                                        have q121 : x8_2 < (l0_4.length : Int) := of_decide_eq_true (by first | (with_reducible assumption) | assumption)
                                        obtain ⟨ad121, A121_0, c121_0, e121, hx121_0, hl121_0, hi121_0⟩ := at_T61 HR0_4.out x8_2 p121 q121
                                        obtain rfl : ad120 = ad121 := (by injection e121)
                                        replace hx121_0 := (HB.out.cell (World.block_lt_of_cell? w _ hx121_0)).trans hx121_0
                                        have HR121_0 := Aside0.mk hi121_0
                                        have HC121_0 := Aside0.mk hl121_0
                                        clear hi121_0 hl121_0
                                        replace p121 := eq_true p121
                                        replace q121 := eq_true q121
                                        have p122 : 0 ≤ (x9_3 : Int) := of_decide_eq_true (by first | (with_reducible assumption) | assumption)
                                        have q122 : x9_3 < (((rd_T61 l0_4 x8_2).f0).length : Int) := of_decide_eq_true (by first | (with_reducible assumption) | assumption)
                                        obtain ⟨ad122, A122_6, c122_6, A122_7, c122_7, A122_8, c122_8, e122, hx122_0, hx122_1, hx122_2, hx122_3, hx122_4, hx122_5, hx122_6, hx122_7, hx122_8, hl122_6, hi122_6, hl122_7, hi122_7, hl122_8, hi122_8⟩ := at_T58 HR121_0.out x9_3 p122 q122
                                        cases e122
                                        replace hx122_0 := (HB.out.cell (World.block_lt_of_cell? w _ hx122_0)).trans hx122_0
                                        replace hx122_1 := (HB.out.cell (World.block_lt_of_cell? w _ hx122_1)).trans hx122_1
                                        replace hx122_2 := (HB.out.cell (World.block_lt_of_cell? w _ hx122_2)).trans hx122_2
                                        replace hx122_3 := (HB.out.cell (World.block_lt_of_cell? w _ hx122_3)).trans hx122_3
                                        replace hx122_4 := (HB.out.cell (World.block_lt_of_cell? w _ hx122_4)).trans hx122_4
                                        replace hx122_5 := (HB.out.cell (World.block_lt_of_cell? w _ hx122_5)).trans hx122_5
                                        replace hx122_6 := (HB.out.cell (World.block_lt_of_cell? w _ hx122_6)).trans hx122_6
                                        replace hx122_7 := (HB.out.cell (World.block_lt_of_cell? w _ hx122_7)).trans hx122_7
                                        replace hx122_8 := (HB.out.cell (World.block_lt_of_cell? w _ hx122_8)).trans hx122_8
                                        have HR122_6 := Aside0.mk hi122_6
                                        have HC122_6 := Aside0.mk hl122_6
                                        clear hi122_6 hl122_6
                                        have HR122_7 := Aside0.mk hi122_7
                                        have HC122_7 := Aside0.mk hl122_7
                                        clear hi122_7 hl122_7
                                        have HR122_8 := Aside0.mk hi122_8
                                        have HC122_8 := Aside0.mk hl122_8
                                        clear hi122_8 hl122_8
                                        replace p122 := eq_true p122
                                        replace q122 := eq_true q122
                                        go_wp2
                                        go_roundg kj22
                                        case measure => have := HJ3.out; have := HK2.out; have := HK3.out; have := HJ22.out; omega
                                        case rel => exact ⟨(x7_3), (wrap64 (x9_3 + 1)), (by first | rfl | (simp; done) | (simp [*]; done)), (by first | rfl | (simp; done) | (simp [*]; done)), H', ⟨by have := HJ3.out; have := HK2.out; have := HK3.out; have := HJ22.out; omega⟩, ⟨by (with_reducible repeat (first | refine blk_drewN ?_ _ | refine blk_drew ?_ | refine blk_alloc ?_ _)); exact BK116.out⟩, ⟨by repeat (first | (with_reducible first | exact HB.out | apply below_alloc | apply pw_below_drewN | apply below_drew1 | refine below_set ?_ GE116.out) | exact HB.out)⟩⟩
                                      · rw [if_neg c31] at H
                                        have c31b0 : (((rd_T58 ((rd_T61 l0_4 x8_2).f0) x9_3).f1) == 0) = false := beq_eq_false_iff_ne.mpr c31
                                        have c31b1 : (((rd_T58 ((rd_T61 l0_4 x8_2).f0) x9_3).f1) != 0) = true := bne_iff_ne.mpr c31
                                        have H' := Aside0.mk H
                                        clear H
                                        have hcz33_0 : wc.cell? ⟨gb116, 0, none⟩ = some (.string a0_0) := (blk_cell BK116.out 0).trans rfl
                                        have hcz33_1 : wc.cell? ⟨gb116, 1, none⟩ = some (.int .i64 a0_1) := (blk_cell BK116.out 1).trans rfl
                                        have hcz33_2 : wc.cell? ⟨gb116, 2, none⟩ = some (.slice A0_2 l0_2.length c0_2) := (blk_cell BK116.out 2).trans rfl
                                        have hcz33_3 : wc.cell? ⟨gb116, 3, none⟩ = some (.int .i64 a0_3) := (blk_cell BK116.out 3).trans rfl
                                        have hcz33_4 : wc.cell? ⟨gb116, 4, none⟩ = some (.slice (some ad120) l0_4.length c0_4) := (blk_cell BK116.out 4).trans rfl
                                        have hfz33_0 := blk_frozen BK116.out 0
                                        have hfz33_1 := blk_frozen BK116.out 1
                                        have hfz33_2 := blk_frozen BK116.out 2
                                        have hfz33_3 := blk_frozen BK116.out 3
                                        have hfz33_4 := blk_frozen BK116.out 4
                                        have p121 : 0 ≤ (x8_2 : Int) := of_decide_eq_true (by first | (with_reducible assumption) | assumption)
                                        have q121 : x8_2 < (l0_4.length : Int) := of_decide_eq_true (by first | (with_reducible assumption) | assumption)
                                        obtain ⟨ad121, A121_0, c121_0, e121, hx121_0, hl121_0, hi121_0⟩ := at_T61 HR0_4.out x8_2 p121 q121
                                        obtain rfl : ad120 = ad121 := (by injection e121)
                                        replace hx121_0 := (HB.out.cell (World.block_lt_of_cell? w _ hx121_0)).trans hx121_0
                                        have HR121_0 := Aside0.mk hi121_0
                                        have HC121_0 := Aside0.mk hl121_0
                                        clear hi121_0 hl121_0
                                        replace p121 := eq_true p121
                                        replace q121 := eq_true q121
                                        have p122 : 0 ≤ (x9_3 : Int) := of_decide_eq_true (by first | (with_reducible assumption) | assumption)
                                        have q122 : x9_3 < (((rd_T61 l0_4 x8_2).f0).length : Int) := of_decide_eq_true (by first | (with_reducible assumption) | assumption)
                                        obtain ⟨ad122, A122_6, c122_6, A122_7, c122_7, A122_8, c122_8, e122, hx122_0, hx122_1, hx122_2, hx122_3, hx122_4, hx122_5, hx122_6, hx122_7, hx122_8, hl122_6, hi122_6, hl122_7, hi122_7, hl122_8, hi122_8⟩ := at_T58 HR121_0.out x9_3 p122 q122
                                        cases e122
                                        replace hx122_0 := (HB.out.cell (World.block_lt_of_cell? w _ hx122_0)).trans hx122_0
                                        replace hx122_1 := (HB.out.cell (World.block_lt_of_cell? w _ hx122_1)).trans hx122_1
                                        replace hx122_2 := (HB.out.cell (World.block_lt_of_cell? w _ hx122_2)).trans hx122_2
                                        replace hx122_3 := (HB.out.cell (World.block_lt_of_cell? w _ hx122_3)).trans hx122_3
                                        replace hx122_4 := (HB.out.cell (World.block_lt_of_cell? w _ hx122_4)).trans hx122_4
                                        replace hx122_5 := (HB.out.cell (World.block_lt_of_cell? w _ hx122_5)).trans hx122_5
                                        replace hx122_6 := (HB.out.cell (World.block_lt_of_cell? w _ hx122_6)).trans hx122_6
                                        replace hx122_7 := (HB.out.cell (World.block_lt_of_cell? w _ hx122_7)).trans hx122_7
                                        replace hx122_8 := (HB.out.cell (World.block_lt_of_cell? w _ hx122_8)).trans hx122_8
                                        have HR122_6 := Aside0.mk hi122_6
                                        have HC122_6 := Aside0.mk hl122_6
                                        clear hi122_6 hl122_6
                                        have HR122_7 := Aside0.mk hi122_7
                                        have HC122_7 := Aside0.mk hl122_7
                                        clear hi122_7 hl122_7
                                        have HR122_8 := Aside0.mk hi122_8
                                        have HC122_8 := Aside0.mk hl122_8
                                        clear hi122_8 hl122_8
                                        replace p122 := eq_true p122
                                        replace q122 := eq_true q122
                                        go_wp2
                                        go_roundg kj22
                                        case measure => have := HJ3.out; have := HK2.out; have := HK3.out; have := HJ22.out; omega
                                        case rel => exact ⟨(wrap64 (x7_3 + 1)), (wrap64 (x9_3 + 1)), (by first | rfl | (simp; done) | (simp [*]; done)), (by first | rfl | (simp; done) | (simp [*]; done)), H', ⟨by have := HJ3.out; have := HK2.out; have := HK3.out; have := HJ22.out; omega⟩, ⟨by (with_reducible repeat (first | refine blk_drewN ?_ _ | refine blk_drew ?_ | refine blk_alloc ?_ _)); exact BK116.out⟩, ⟨by repeat (first | (with_reducible first | exact HB.out | apply below_alloc | apply pw_below_drewN | apply below_drew1 | refine below_set ?_ GE116.out) | exact HB.out)⟩⟩
                                    · rw [if_neg c30] at H
                                      exact absurd H (by simp)
                                  · rw [if_neg c29] at H
                                    exact absurd H (by simp)
                                · rw [if_neg c28] at H
                                  exact absurd H (by simp)
                              · rw [if_neg c27] at H
                                exact absurd H (by simp)
                      · rw [if_neg c22] at H
                        have c22b0 : decide (x9_3 < (((rd_T61 l0_4 x8_2).f0).length : Int)) = false := decide_eq_false c22
                        clear c22
                        have H' := Aside0.mk H
                        clear H
                        have hcz34_0 : wr.cell? ⟨gb116, 0, none⟩ = some (.string a0_0) := (blk_cell BK116.out 0).trans rfl
                        have hcz34_1 : wr.cell? ⟨gb116, 1, none⟩ = some (.int .i64 a0_1) := (blk_cell BK116.out 1).trans rfl
                        have hcz34_2 : wr.cell? ⟨gb116, 2, none⟩ = some (.slice A0_2 l0_2.length c0_2) := (blk_cell BK116.out 2).trans rfl
                        have hcz34_3 : wr.cell? ⟨gb116, 3, none⟩ = some (.int .i64 a0_3) := (blk_cell BK116.out 3).trans rfl
                        have hcz34_4 : wr.cell? ⟨gb116, 4, none⟩ = some (.slice A0_4 l0_4.length c0_4) := (blk_cell BK116.out 4).trans rfl
                        have hfz34_0 := blk_frozen BK116.out 0
                        have hfz34_1 := blk_frozen BK116.out 1
                        have hfz34_2 := blk_frozen BK116.out 2
                        have hfz34_3 := blk_frozen BK116.out 3
                        have hfz34_4 := blk_frozen BK116.out 4
                        have p120 : 0 ≤ (x8_2 : Int) := of_decide_eq_true (by first | (with_reducible assumption) | assumption)
                        have q120 : x8_2 < (l0_4.length : Int) := of_decide_eq_true (by first | (with_reducible assumption) | assumption)
                        obtain ⟨ad120, A120_0, c120_0, e120, hx120_0, hl120_0, hi120_0⟩ := at_T61 HR0_4.out x8_2 p120 q120
                        cases e120
                        replace hx120_0 := (HB.out.cell (World.block_lt_of_cell? w _ hx120_0)).trans hx120_0
                        have HR120_0 := Aside0.mk hi120_0
                        have HC120_0 := Aside0.mk hl120_0
                        clear hi120_0 hl120_0
                        replace p120 := eq_true p120
                        replace q120 := eq_true q120
                        go_wp2
                        go_roundg k3
                        case measure => have := HJ3.out; have := HK2.out; have := HK3.out; omega
                        case rel => exact ⟨(x7_3), (wrap64 (x8_2 + 1)), (by first | rfl | (simp; done) | (simp [*]; done)), (by first | rfl | (simp; done) | (simp [*]; done)), H', ⟨by have := HJ3.out; have := HK2.out; have := HK3.out; omega⟩, ⟨by (with_reducible repeat (first | refine blk_drewN ?_ _ | refine blk_drew ?_ | refine blk_alloc ?_ _)); exact BK116.out⟩, ⟨by repeat (first | (with_reducible first | exact HB.out | apply below_alloc | apply pw_below_drewN | apply below_drew1 | refine below_set ?_ GE116.out) | exact HB.out)⟩⟩
                    · rw [if_neg c21] at H
                      exact absurd H (by simp)
                  · rw [if_neg c20] at H
                    exact absurd H (by simp)
            · rw [if_neg c19] at H
              have c19b0 : decide (x8_2 ≤ a1) = false := decide_eq_false c19
              clear c19
              obtain rfl := Option.some.inj H
              go_wp2
              go_ret
              exact ⟨by first | rfl | (simp [errW_none, errW_some] <;> rfl) | (simp [*, errW_none, errW_some] <;> rfl), by repeat (first | (with_reducible first | exact HB.out | apply below_alloc | apply pw_below_drewN | apply below_drew1 | refine below_set ?_ GE116.out) | exact HB.out)⟩

end Go.Proofs.Ytnogjankhacdpaa.QFnExactResultOf
