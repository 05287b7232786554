-- written by mp.py, a program of this session, over the translation; Lean checks it
import Derived.Test.YtnogjankhacdpaaQFnExactImageFaultx0
import Derived.Test.YtnogjankhacdpaaQFnExactImageFaultx1
import Derived.Test.YtnogjankhacdpaaQFnExactImageFaultx2
import Derived.Test.YtnogjankhacdpaaQFnExactImageFaultx3
namespace Go.Proofs.Ytnogjankhacdpaa.QFnExactImageFault
open Go.RowKit Go.Proofs.YtnogjankhacdpaaW.PrintWords Go.Proofs.YtnogjankhacdpaaW.PrintLast Go.Proofs.YtnogjankhacdpaaW.PrintMore
attribute [local go_sem] max2_int min2_int max_two min_two max_three min_three max_four min_four   -- for this text's walks alone
set_option linter.unusedVariables false
set_option linter.unusedSimpArgs false

/-! ### spec_ImageFault: function 28 -/
mutual
def spec_ImageFault.j0 : Nat → Bool → List Int → List Int → Int → List Int → Int → List (S95) → Option (Int)
 | 0, _, _, _, _, _, _, _ => none
 | k + 1, x21, x136000, x136001, x136002, x136003, x136004, x136005 => if x21 = true then (some 1) else (spec_ImageFault.l0 k 0 x136000 x136001 x136002 x136003 x136004 x136005)
def spec_ImageFault.l0 : Nat → Int → List Int → List Int → Int → List Int → Int → List (S95) → Option (Int)
 | 0, _, _, _, _, _, _, _ => none
 | k + 1, x3, x136000, x136001, x136002, x136003, x136004, x136005 => if x3 < (x136000.length : Int) then (if 0 ≤ x3 then (if x3 ≤ (wrap64 (x3 + 8)) then (if (wrap64 (x3 + 8)) ≤ (x136000.length : Int) then ((spec_l16Decode.f k ((x136000.take ((wrap64 (x3 + 8)) : Int).toNat).drop (x3 : Int).toNat)).bind fun bt137 => ((spec_InsFault.f k bt137.1 bt137.2.1 bt137.2.2.1 bt137.2.2.2.1 bt137.2.2.2.2).bind fun t142 => (if t142 = true then (some 2) else (spec_ImageFault.l0 k (wrap64 (x3 + 8)) x136000 x136001 x136002 x136003 x136004 x136005)))) else (none)) else (none)) else (none)) else (if (x136001.length : Int) > 1048576 then (some 3) else (if x136002 < 0 then (spec_ImageFault.j2 k true x136000 x136001 x136002 x136003 x136004 x136005) else (spec_ImageFault.j2 k (decide (x136002 ≥ (wrap64 ((x136000.length : Int) / 8)))) x136000 x136001 x136002 x136003 x136004 x136005)))
def spec_ImageFault.j2 : Nat → Bool → List Int → List Int → Int → List Int → Int → List (S95) → Option (Int)
 | 0, _, _, _, _, _, _, _ => none
 | k + 1, x52, x136000, x136001, x136002, x136003, x136004, x136005 => if x52 = true then (some 4) else (if (x136003.length : Int) > 6 then (spec_ImageFault.j3 k true x136000 x136001 x136002 x136003 x136004 x136005) else (if x136004 = 0 then (spec_ImageFault.j3 k false x136000 x136001 x136002 x136003 x136004 x136005) else ((spec_ValidType.f x136004).bind fun t143 => (spec_ImageFault.j3 k (!t143) x136000 x136001 x136002 x136003 x136004 x136005))))
def spec_ImageFault.j3 : Nat → Bool → List Int → List Int → Int → List Int → Int → List (S95) → Option (Int)
 | 0, _, _, _, _, _, _, _ => none
 | k + 1, x67, x136000, x136001, x136002, x136003, x136004, x136005 => if x67 = true then (some 5) else (spec_ImageFault.l1 k 0 x136000 x136001 x136002 x136003 x136004 x136005)
def spec_ImageFault.l1 : Nat → Int → List Int → List Int → Int → List Int → Int → List (S95) → Option (Int)
 | 0, _, _, _, _, _, _, _ => none
 | k + 1, x4, x136000, x136001, x136002, x136003, x136004, x136005 => if x4 < (x136003.length : Int) then (if 0 ≤ x4 then ((spec_ValidWidth.f (rd x136003 x4)).bind fun t145 => (if t145 = true then (spec_ImageFault.l1 k (wrap64 (x4 + 1)) x136000 x136001 x136002 x136003 x136004 x136005) else (some 5))) else (none)) else (some 0)
end
def spec_ImageFault.f (k : Nat) (l0_0 : List Int) (l0_1 : List Int) (a0_2 : Int) (l0_3 : List Int) (a0_4 : Int) (l0_5 : List (S95)) : Option (Int) := if ((l0_0.length : Int) % 8) = 0 then (if (l0_0.length : Int) = 0 then (spec_ImageFault.j0 k true l0_0 l0_1 a0_2 l0_3 a0_4 l0_5) else (spec_ImageFault.j0 k (decide ((l0_0.length : Int) > 4194304)) l0_0 l0_1 a0_2 l0_3 a0_4 l0_5)) else (spec_ImageFault.j0 k true l0_0 l0_1 a0_2 l0_3 a0_4 l0_5)
theorem spec_ImageFault.mono_l : ∀ k, (∀ y0 y1 y2 y3 y4 y5 y6, LeO (spec_ImageFault.j0 k y0 y1 y2 y3 y4 y5 y6) (spec_ImageFault.j0 (k + 1) y0 y1 y2 y3 y4 y5 y6)) ∧ (∀ y0 y1 y2 y3 y4 y5 y6, LeO (spec_ImageFault.l0 k y0 y1 y2 y3 y4 y5 y6) (spec_ImageFault.l0 (k + 1) y0 y1 y2 y3 y4 y5 y6)) ∧ (∀ y0 y1 y2 y3 y4 y5 y6, LeO (spec_ImageFault.j2 k y0 y1 y2 y3 y4 y5 y6) (spec_ImageFault.j2 (k + 1) y0 y1 y2 y3 y4 y5 y6)) ∧ (∀ y0 y1 y2 y3 y4 y5 y6, LeO (spec_ImageFault.j3 k y0 y1 y2 y3 y4 y5 y6) (spec_ImageFault.j3 (k + 1) y0 y1 y2 y3 y4 y5 y6)) ∧ (∀ y0 y1 y2 y3 y4 y5 y6, LeO (spec_ImageFault.l1 k y0 y1 y2 y3 y4 y5 y6) (spec_ImageFault.l1 (k + 1) y0 y1 y2 y3 y4 y5 y6))
 | 0 => ⟨fun _ _ _ _ _ _ _ r h => by simp [spec_ImageFault.j0] at h, fun _ _ _ _ _ _ _ r h => by simp [spec_ImageFault.l0] at h, fun _ _ _ _ _ _ _ r h => by simp [spec_ImageFault.j2] at h, fun _ _ _ _ _ _ _ r h => by simp [spec_ImageFault.j3] at h, fun _ _ _ _ _ _ _ r h => by simp [spec_ImageFault.l1] at h⟩
 | k + 1 => by
  obtain ⟨ih0, ih1, ih2, ih3, ih4⟩ := spec_ImageFault.mono_l k
  refine ⟨?_, ?_, ?_, ?_, ?_⟩
  ·intro y0 y1 y2 y3 y4 y5 y6
   unfold spec_ImageFault.j0
   repeat' first
   | (with_reducible exact ih0 _ _ _ _ _ _ _)
   | (with_reducible exact ih1 _ _ _ _ _ _ _)
   | (with_reducible exact ih2 _ _ _ _ _ _ _)
   | (with_reducible exact ih3 _ _ _ _ _ _ _)
   | (with_reducible exact ih4 _ _ _ _ _ _ _)
   | (with_reducible exact spec_InsFault.mono _ _ _ _ _ _)
   | (with_reducible exact spec_l16Decode.mono _ _)
   | (with_reducible exact LeO.refl _)
   | (with_reducible exact LeO.none _)
   | (with_reducible refine LeO.ite ?_ ?_)
   | (with_reducible refine LeO.bind ?_ (fun _ => ?_))
   | exact ih0 _ _ _ _ _ _ _
   | exact ih1 _ _ _ _ _ _ _
   | exact ih2 _ _ _ _ _ _ _
   | exact ih3 _ _ _ _ _ _ _
   | exact ih4 _ _ _ _ _ _ _
   | exact spec_InsFault.mono _ _ _ _ _ _
   | exact spec_l16Decode.mono _ _
   | exact LeO.none _
   | refine LeO.ite ?_ ?_
   | refine LeO.bind ?_ (fun _ => ?_)
  ·intro y0 y1 y2 y3 y4 y5 y6
   unfold spec_ImageFault.l0
   repeat' first
   | (with_reducible exact ih0 _ _ _ _ _ _ _)
   | (with_reducible exact ih1 _ _ _ _ _ _ _)
   | (with_reducible exact ih2 _ _ _ _ _ _ _)
   | (with_reducible exact ih3 _ _ _ _ _ _ _)
   | (with_reducible exact ih4 _ _ _ _ _ _ _)
   | (with_reducible exact spec_InsFault.mono _ _ _ _ _ _)
   | (with_reducible exact spec_l16Decode.mono _ _)
   | (with_reducible exact LeO.refl _)
   | (with_reducible exact LeO.none _)
   | (with_reducible refine LeO.ite ?_ ?_)
   | (with_reducible refine LeO.bind ?_ (fun _ => ?_))
   | exact ih0 _ _ _ _ _ _ _
   | exact ih1 _ _ _ _ _ _ _
   | exact ih2 _ _ _ _ _ _ _
   | exact ih3 _ _ _ _ _ _ _
   | exact ih4 _ _ _ _ _ _ _
   | exact spec_InsFault.mono _ _ _ _ _ _
   | exact spec_l16Decode.mono _ _
   | exact LeO.none _
   | refine LeO.ite ?_ ?_
   | refine LeO.bind ?_ (fun _ => ?_)
  ·intro y0 y1 y2 y3 y4 y5 y6
   unfold spec_ImageFault.j2
   repeat' first
   | (with_reducible exact ih0 _ _ _ _ _ _ _)
   | (with_reducible exact ih1 _ _ _ _ _ _ _)
   | (with_reducible exact ih2 _ _ _ _ _ _ _)
   | (with_reducible exact ih3 _ _ _ _ _ _ _)
   | (with_reducible exact ih4 _ _ _ _ _ _ _)
   | (with_reducible exact spec_InsFault.mono _ _ _ _ _ _)
   | (with_reducible exact spec_l16Decode.mono _ _)
   | (with_reducible exact LeO.refl _)
   | (with_reducible exact LeO.none _)
   | (with_reducible refine LeO.ite ?_ ?_)
   | (with_reducible refine LeO.bind ?_ (fun _ => ?_))
   | exact ih0 _ _ _ _ _ _ _
   | exact ih1 _ _ _ _ _ _ _
   | exact ih2 _ _ _ _ _ _ _
   | exact ih3 _ _ _ _ _ _ _
   | exact ih4 _ _ _ _ _ _ _
   | exact spec_InsFault.mono _ _ _ _ _ _
   | exact spec_l16Decode.mono _ _
   | exact LeO.none _
   | refine LeO.ite ?_ ?_
   | refine LeO.bind ?_ (fun _ => ?_)
  ·intro y0 y1 y2 y3 y4 y5 y6
   unfold spec_ImageFault.j3
   repeat' first
   | (with_reducible exact ih0 _ _ _ _ _ _ _)
   | (with_reducible exact ih1 _ _ _ _ _ _ _)
   | (with_reducible exact ih2 _ _ _ _ _ _ _)
   | (with_reducible exact ih3 _ _ _ _ _ _ _)
   | (with_reducible exact ih4 _ _ _ _ _ _ _)
   | (with_reducible exact spec_InsFault.mono _ _ _ _ _ _)
   | (with_reducible exact spec_l16Decode.mono _ _)
   | (with_reducible exact LeO.refl _)
   | (with_reducible exact LeO.none _)
   | (with_reducible refine LeO.ite ?_ ?_)
   | (with_reducible refine LeO.bind ?_ (fun _ => ?_))
   | exact ih0 _ _ _ _ _ _ _
   | exact ih1 _ _ _ _ _ _ _
   | exact ih2 _ _ _ _ _ _ _
   | exact ih3 _ _ _ _ _ _ _
   | exact ih4 _ _ _ _ _ _ _
   | exact spec_InsFault.mono _ _ _ _ _ _
   | exact spec_l16Decode.mono _ _
   | exact LeO.none _
   | refine LeO.ite ?_ ?_
   | refine LeO.bind ?_ (fun _ => ?_)
  ·intro y0 y1 y2 y3 y4 y5 y6
   unfold spec_ImageFault.l1
   repeat' first
   | (with_reducible exact ih0 _ _ _ _ _ _ _)
   | (with_reducible exact ih1 _ _ _ _ _ _ _)
   | (with_reducible exact ih2 _ _ _ _ _ _ _)
   | (with_reducible exact ih3 _ _ _ _ _ _ _)
   | (with_reducible exact ih4 _ _ _ _ _ _ _)
   | (with_reducible exact spec_InsFault.mono _ _ _ _ _ _)
   | (with_reducible exact spec_l16Decode.mono _ _)
   | (with_reducible exact LeO.refl _)
   | (with_reducible exact LeO.none _)
   | (with_reducible refine LeO.ite ?_ ?_)
   | (with_reducible refine LeO.bind ?_ (fun _ => ?_))
   | exact ih0 _ _ _ _ _ _ _
   | exact ih1 _ _ _ _ _ _ _
   | exact ih2 _ _ _ _ _ _ _
   | exact ih3 _ _ _ _ _ _ _
   | exact ih4 _ _ _ _ _ _ _
   | exact spec_InsFault.mono _ _ _ _ _ _
   | exact spec_l16Decode.mono _ _
   | exact LeO.none _
   | refine LeO.ite ?_ ?_
   | refine LeO.bind ?_ (fun _ => ?_)
theorem spec_ImageFault.mono : ∀ a0 a1 a2 a3 a4 a5 k, LeO (spec_ImageFault.f k a0 a1 a2 a3 a4 a5) (spec_ImageFault.f (k + 1) a0 a1 a2 a3 a4 a5) := by
 intro a0 a1 a2 a3 a4 a5 k
 obtain ⟨ih0, ih1, ih2, ih3, ih4⟩ := spec_ImageFault.mono_l k
 unfold spec_ImageFault.f
 repeat' first
   | (with_reducible exact ih0 _ _ _ _ _ _ _)
   | (with_reducible exact ih1 _ _ _ _ _ _ _)
   | (with_reducible exact ih2 _ _ _ _ _ _ _)
   | (with_reducible exact ih3 _ _ _ _ _ _ _)
   | (with_reducible exact ih4 _ _ _ _ _ _ _)
   | (with_reducible exact spec_InsFault.mono _ _ _ _ _ _)
   | (with_reducible exact spec_l16Decode.mono _ _)
   | (with_reducible exact LeO.refl _)
   | (with_reducible exact LeO.none _)
   | (with_reducible refine LeO.ite ?_ ?_)
   | (with_reducible refine LeO.bind ?_ (fun _ => ?_))
   | exact ih0 _ _ _ _ _ _ _
   | exact ih1 _ _ _ _ _ _ _
   | exact ih2 _ _ _ _ _ _ _
   | exact ih3 _ _ _ _ _ _ _
   | exact ih4 _ _ _ _ _ _ _
   | exact spec_InsFault.mono _ _ _ _ _ _
   | exact spec_l16Decode.mono _ _
   | exact LeO.none _
   | refine LeO.ite ?_ ?_
   | refine LeO.bind ?_ (fun _ => ?_)
set_option maxHeartbeats 8000000 in
set_option maxRecDepth 100000 in
theorem spec_ImageFault.calls (k : Nat) (A0_0 : Option Addr) (c0_0 : Nat) (l0_0 : List Int) (A0_1 : Option Addr) (c0_1 : Nat) (l0_1 : List Int) (a0_2 : Int) (A0_3 : Option Addr) (c0_3 : Nat) (l0_3 : List Int) (a0_4 : Int) (A0_5 : Option Addr) (c0_5 : Nat) (l0_5 : List (S95)) (r : Int) (w : World) (hr0_0 : Kd.C (Kd.int .u8) w A0_0 l0_0.length l0_0) (hc0_0 : l0_0.length ≤ c0_0) (hr0_1 : Kd.C (Kd.int .u8) w A0_1 l0_1.length l0_1) (hc0_1 : l0_1.length ≤ c0_1) (hr0_3 : Kd.C (Kd.int .i64) w A0_3 l0_3.length l0_3) (hc0_3 : l0_3.length ≤ c0_3) (hr0_5 : Kd.C k95 w A0_5 l0_5.length l0_5) (hc0_5 : l0_5.length ≤ c0_5) (h : spec_ImageFault.f k l0_0 l0_1 a0_2 l0_3 a0_4 l0_5 = some r) :
    Calls Try.prog 28 #[.agg #[.slice A0_0 l0_0.length c0_0, .slice A0_1 l0_1.length c0_1, .int .i64 a0_2, .slice A0_3 l0_3.length c0_3, .int .i64 a0_4, .slice A0_5 l0_5.length c0_5]] w fun e w' => e = .returned (.int .i64 r) ∧ Below w.heap.size w w' := by
 have hu44 := Try.underlying44
 have HR0_0 := Aside0.mk hr0_0
 have HC0_0 := Aside0.mk hc0_0
 clear hr0_0 hc0_0
 have HR0_1 := Aside0.mk hr0_1
 have HC0_1 := Aside0.mk hc0_1
 clear hr0_1 hc0_1
 have HR0_3 := Aside0.mk hr0_3
 have HC0_3 := Aside0.mk hc0_3
 clear hr0_3 hc0_3
 have HR0_5 := Aside0.mk hr0_5
 have HC0_5 := Aside0.mk hc0_5
 clear hr0_5 hc0_5
 have HB := Aside0.mk (Below.refl w.heap.size w)
 have H : (if ((l0_0.length : Int) % 8) = 0 then (if (l0_0.length : Int) = 0 then (spec_ImageFault.j0 k true l0_0 l0_1 a0_2 l0_3 a0_4 l0_5) else (spec_ImageFault.j0 k (decide ((l0_0.length : Int) > 4194304)) l0_0 l0_1 a0_2 l0_3 a0_4 l0_5)) else (spec_ImageFault.j0 k true l0_0 l0_1 a0_2 l0_3 a0_4 l0_5)) = some r := h
 clear h
 have HC2 := Aside0.mk H
 clear H
 go_enter Try.func28, Try.ntmps28
 go_upto_region 1 with (first | ((with_reducible refine gate_dst (N := 1) rfl ?_); (try (refine gate_guard (by rfl) ?_; dsimp only)); refine box_event ?hg (N := 1) ?hd (cs := #[.slice A0_0 l0_0.length c0_0, .slice A0_1 l0_1.length c0_1, .int .i64 a0_2, .slice A0_3 l0_3.length c0_3, .int .i64 a0_4, .slice A0_5 l0_5.length c0_5]) (t := 44) ?hr ?_; (case hd => rfl); (case hg => rfl); (case hr => first | (go_simp; done) | (go_simp; rfl)); intro gb135 hg w3 hbox hb; have n0_ := Aside0.mk (below_step (by repeat (first | (with_reducible first | exact HB.out | apply below_alloc | apply pw_below_drewN | apply below_drew1) | exact HB.out)) hb); have n1_ := Aside0.mk (hbox); have n2_ := Aside0.mk ((by rw [hg]; exact (below_size (by repeat (first | (with_reducible first | exact HB.out | apply below_alloc | apply pw_below_drewN | apply below_drew1) | exact HB.out))) : w.heap.size ≤ gb135)); have n3_ := Aside0.mk ((by rw [hg]; exact (below_size (by repeat (first | (with_reducible first | exact HB.out | apply below_alloc | apply pw_below_drewN | apply below_drew1) | exact HB.out))) : w.heap.size ≤ gb135)); clear HB; have HB := n0_; have BK135 := n1_; have GW135 := n2_; have GE135 := n3_; clear n0_ n1_ n2_ n3_; clear hb hbox hg))
 (try simp only [Act.put, List.setIfInBounds_toArray, List.set_cons_zero, List.set_cons_succ])
 go_cut [21] (fun v21 wc => ∃ (kq : Nat) (x21_1 : Bool), v21 = .bool x21_1 ∧ Aside0 (spec_ImageFault.j0 kq x21_1 l0_0 l0_1 a0_2 l0_3 a0_4 l0_5 = some r) ∧ Aside0 (kq ≤ k) ∧ Aside0 (wc.heap[gb135]? = some (.cells #[(.slice A0_0 l0_0.length c0_0), (.slice A0_1 l0_1.length c0_1), .int .i64 a0_2, (.slice A0_3 l0_3.length c0_3), .int .i64 a0_4, (.slice A0_5 l0_5.length c0_5)] 44 (0, 0))) ∧ Aside0 (Below w.heap.size w wc))
 case first =>
  have H := HC2.out
  clear HC2
  by_cases c4 : ((l0_0.length : Int) % 8) = 0
  ·rw [if_pos c4] at H
   have c4b0 : (((l0_0.length : Int) % 8) == 0) = true := beq_iff_eq.mpr c4
   have c4b1 : (((l0_0.length : Int) % 8) != 0) = false := bne_eq_false_iff_eq.mpr c4
   clear c4
   (first | rw [c4b0] | (simp only [i64_w, i32_w]; rw [c4b0]) | skip)
   by_cases c5 : (l0_0.length : Int) = 0
   ·rw [if_pos c5] at H
    have c5b0 : ((l0_0.length : Int) == 0) = true := beq_iff_eq.mpr c5
    have c5b1 : ((l0_0.length : Int) != 0) = false := bne_eq_false_iff_eq.mpr c5
    clear c5
    have H' := Aside0.mk H
    clear H
    have hcz6_0 : w3.cell? ⟨gb135, 0, none⟩ = some (.slice A0_0 l0_0.length c0_0) := (blk_cell BK135.out 0).trans rfl
    have hcz6_1 : w3.cell? ⟨gb135, 1, none⟩ = some (.slice A0_1 l0_1.length c0_1) := (blk_cell BK135.out 1).trans rfl
    have hcz6_2 : w3.cell? ⟨gb135, 2, none⟩ = some (.int .i64 a0_2) := (blk_cell BK135.out 2).trans rfl
    have hcz6_3 : w3.cell? ⟨gb135, 3, none⟩ = some (.slice A0_3 l0_3.length c0_3) := (blk_cell BK135.out 3).trans rfl
    have hcz6_4 : w3.cell? ⟨gb135, 4, none⟩ = some (.int .i64 a0_4) := (blk_cell BK135.out 4).trans rfl
    have hcz6_5 : w3.cell? ⟨gb135, 5, none⟩ = some (.slice A0_5 l0_5.length c0_5) := (blk_cell BK135.out 5).trans rfl
    have hfz6_0 := blk_frozen BK135.out 0
    have hfz6_1 := blk_frozen BK135.out 1
    have hfz6_2 := blk_frozen BK135.out 2
    have hfz6_3 := blk_frozen BK135.out 3
    have hfz6_4 := blk_frozen BK135.out 4
    have hfz6_5 := blk_frozen BK135.out 5
    go_wp2
    go_meet
    case rel => exact ⟨_, (true), (by first | rfl | (simp; done) | (simp [*]; done)), H', ⟨by first | omega | exact Nat.le_refl _⟩, ⟨by (with_reducible repeat (first | refine blk_drewN ?_ _ | refine blk_drew ?_ | refine blk_alloc ?_ _)); exact BK135.out⟩, ⟨by repeat (first | (with_reducible first | exact HB.out | apply below_alloc | apply pw_below_drewN | apply below_drew1 | refine below_set ?_ GE135.out) | exact HB.out)⟩⟩
   ·rw [if_neg c5] at H
    have c5b0 : ((l0_0.length : Int) == 0) = false := beq_eq_false_iff_ne.mpr c5
    have c5b1 : ((l0_0.length : Int) != 0) = true := bne_iff_ne.mpr c5
    have c5b2 : ¬ (l0_0 = []) := fun h_ => c5 (by rw [h_]; rfl)
    have H' := Aside0.mk H
    clear H
    have hcz7_0 : w3.cell? ⟨gb135, 0, none⟩ = some (.slice A0_0 l0_0.length c0_0) := (blk_cell BK135.out 0).trans rfl
    have hcz7_1 : w3.cell? ⟨gb135, 1, none⟩ = some (.slice A0_1 l0_1.length c0_1) := (blk_cell BK135.out 1).trans rfl
    have hcz7_2 : w3.cell? ⟨gb135, 2, none⟩ = some (.int .i64 a0_2) := (blk_cell BK135.out 2).trans rfl
    have hcz7_3 : w3.cell? ⟨gb135, 3, none⟩ = some (.slice A0_3 l0_3.length c0_3) := (blk_cell BK135.out 3).trans rfl
    have hcz7_4 : w3.cell? ⟨gb135, 4, none⟩ = some (.int .i64 a0_4) := (blk_cell BK135.out 4).trans rfl
    have hcz7_5 : w3.cell? ⟨gb135, 5, none⟩ = some (.slice A0_5 l0_5.length c0_5) := (blk_cell BK135.out 5).trans rfl
    have hfz7_0 := blk_frozen BK135.out 0
    have hfz7_1 := blk_frozen BK135.out 1
    have hfz7_2 := blk_frozen BK135.out 2
    have hfz7_3 := blk_frozen BK135.out 3
    have hfz7_4 := blk_frozen BK135.out 4
    have hfz7_5 := blk_frozen BK135.out 5
    go_wp2
    go_meet
    case rel => exact ⟨_, (decide ((l0_0.length : Int) > 4194304)), (by first | rfl | (simp; done) | (simp [*]; done)), H', ⟨by first | omega | exact Nat.le_refl _⟩, ⟨by (with_reducible repeat (first | refine blk_drewN ?_ _ | refine blk_drew ?_ | refine blk_alloc ?_ _)); exact BK135.out⟩, ⟨by repeat (first | (with_reducible first | exact HB.out | apply below_alloc | apply pw_below_drewN | apply below_drew1 | refine below_set ?_ GE135.out) | exact HB.out)⟩⟩
  ·rw [if_neg c4] at H
   have c4b0 : (((l0_0.length : Int) % 8) == 0) = false := beq_eq_false_iff_ne.mpr c4
   have c4b1 : (((l0_0.length : Int) % 8) != 0) = true := bne_iff_ne.mpr c4
   (first | rw [c4b0] | (simp only [i64_w, i32_w]; rw [c4b0]) | skip)
   have H' := Aside0.mk H
   clear H
   have hcz8_0 : w3.cell? ⟨gb135, 0, none⟩ = some (.slice A0_0 l0_0.length c0_0) := (blk_cell BK135.out 0).trans rfl
   have hcz8_1 : w3.cell? ⟨gb135, 1, none⟩ = some (.slice A0_1 l0_1.length c0_1) := (blk_cell BK135.out 1).trans rfl
   have hcz8_2 : w3.cell? ⟨gb135, 2, none⟩ = some (.int .i64 a0_2) := (blk_cell BK135.out 2).trans rfl
   have hcz8_3 : w3.cell? ⟨gb135, 3, none⟩ = some (.slice A0_3 l0_3.length c0_3) := (blk_cell BK135.out 3).trans rfl
   have hcz8_4 : w3.cell? ⟨gb135, 4, none⟩ = some (.int .i64 a0_4) := (blk_cell BK135.out 4).trans rfl
   have hcz8_5 : w3.cell? ⟨gb135, 5, none⟩ = some (.slice A0_5 l0_5.length c0_5) := (blk_cell BK135.out 5).trans rfl
   have hfz8_0 := blk_frozen BK135.out 0
   have hfz8_1 := blk_frozen BK135.out 1
   have hfz8_2 := blk_frozen BK135.out 2
   have hfz8_3 := blk_frozen BK135.out 3
   have hfz8_4 := blk_frozen BK135.out 4
   have hfz8_5 := blk_frozen BK135.out 5
   go_wp2
   go_meet
   case rel => exact ⟨_, (true), (by first | rfl | (simp; done) | (simp [*]; done)), H', ⟨by first | omega | exact Nat.le_refl _⟩, ⟨by (with_reducible repeat (first | refine blk_drewN ?_ _ | refine blk_drew ?_ | refine blk_alloc ?_ _)); exact BK135.out⟩, ⟨by repeat (first | (with_reducible first | exact HB.out | apply below_alloc | apply pw_below_drewN | apply below_drew1 | refine below_set ?_ GE135.out) | exact HB.out)⟩⟩
 case rest =>
  clear HC2
  try clear c2
  try clear p2
  try clear c4
  try clear c4b0
  try clear c4b1
  try clear c5
  try clear c5b0
  try clear c5b1
  try clear c5b2
  try clear hcz6_0
  try clear hcz6_1
  try clear hcz6_2
  try clear hcz6_3
  try clear hcz6_4
  try clear hcz6_5
  try clear hcz7_0
  try clear hcz7_1
  try clear hcz7_2
  try clear hcz7_3
  try clear hcz7_4
  try clear hcz7_5
  try clear hcz8_0
  try clear hcz8_1
  try clear hcz8_2
  try clear hcz8_3
  try clear hcz8_4
  try clear hcz8_5
  try clear hfz6_0
  try clear hfz6_1
  try clear hfz6_2
  try clear hfz6_3
  try clear hfz6_4
  try clear hfz6_5
  try clear hfz7_0
  try clear hfz7_1
  try clear hfz7_2
  try clear hfz7_3
  try clear hfz7_4
  try clear hfz7_5
  try clear hfz8_0
  try clear hfz8_1
  try clear hfz8_2
  try clear hfz8_3
  try clear hfz8_4
  try clear hfz8_5
  obtain ⟨kq, x21_1, rfl, HA, HJ1, BK135, HB⟩ := hcut
  cases kq with
  | zero => exact absurd HA.out (by simp [spec_ImageFault.j0])
  | succ kj1 =>
   have H := HA.out
   clear HA
   simp only [spec_ImageFault.j0] at H
   by_cases c9 : x21_1 = true
   ·subst c9
    have H1 : (some 1) = some r := by rw [if_pos rfl] at H; exact H
    clear H
    have H := H1
    clear H1
    obtain rfl := Option.some.inj H
    go_wp2
    go_ret
    exact ⟨by first | rfl | (simp [errW_none, errW_some] <;> rfl) | (simp [*, errW_none, errW_some] <;> rfl), by repeat (first | (with_reducible first | exact HB.out | apply below_alloc | apply pw_below_drewN | apply below_drew1 | refine below_set ?_ GE135.out) | exact HB.out)⟩
   ·replace c9 := Bool.eq_false_iff.mpr c9
    subst c9
    have H1 : (spec_ImageFault.l0 kj1 0 l0_0 l0_1 a0_2 l0_3 a0_4 l0_5) = some r := by rw [if_neg (show ¬ (false = true) by decide)] at H; exact H
    clear H
    have H := H1
    clear H1
    have H' := Aside0.mk H
    clear H
    go_wp2
    go_loopg [3] kj1 (fun kq v3 w' => ∃ (x3_2 : Int), v3 = .int .i64 x3_2 ∧ Aside0 (spec_ImageFault.l0 kq x3_2 l0_0 l0_1 a0_2 l0_3 a0_4 l0_5 = some r) ∧ Aside0 (kq ≤ kj1) ∧ Aside0 (w'.heap[gb135]? = some (.cells #[(.slice A0_0 l0_0.length c0_0), (.slice A0_1 l0_1.length c0_1), .int .i64 a0_2, (.slice A0_3 l0_3.length c0_3), .int .i64 a0_4, (.slice A0_5 l0_5.length c0_5)] 44 (0, 0))) ∧ Aside0 (Below w.heap.size w w'))
    case atStart => exact ⟨(0), (by first | rfl | (simp; done) | (simp [*]; done)), H', ⟨Nat.le_refl _⟩, ⟨by (with_reducible repeat (first | refine blk_drewN ?_ _ | refine blk_drew ?_ | refine blk_alloc ?_ _)); exact BK135.out⟩, ⟨by repeat (first | (with_reducible first | exact HB.out | apply below_alloc | apply pw_below_drewN | apply below_drew1 | refine below_set ?_ GE135.out) | exact HB.out)⟩⟩
    case round =>
     clear H'
     try clear c2
     try clear p2
     try clear c4
     try clear c4b0
     try clear c4b1
     try clear c5
     try clear c5b0
     try clear c5b1
     try clear c5b2
     try clear c9
     try clear hcz6_0
     try clear hcz6_1
     try clear hcz6_2
     try clear hcz6_3
     try clear hcz6_4
     try clear hcz6_5
     try clear hcz7_0
     try clear hcz7_1
     try clear hcz7_2
     try clear hcz7_3
     try clear hcz7_4
     try clear hcz7_5
     try clear hcz8_0
     try clear hcz8_1
     try clear hcz8_2
     try clear hcz8_3
     try clear hcz8_4
     try clear hcz8_5
     try clear hfz6_0
     try clear hfz6_1
     try clear hfz6_2
     try clear hfz6_3
     try clear hfz6_4
     try clear hfz6_5
     try clear hfz7_0
     try clear hfz7_1
     try clear hfz7_2
     try clear hfz7_3
     try clear hfz7_4
     try clear hfz7_5
     try clear hfz8_0
     try clear hfz8_1
     try clear hfz8_2
     try clear hfz8_3
     try clear hfz8_4
     try clear hfz8_5
     try clear p2
     obtain ⟨x3_2, rfl, HA, HK2, BK135, HB⟩ := hrel
     cases gk with
     | zero => exact absurd HA.out (by simp [spec_ImageFault.l0])
     | succ k2 =>
      have H := HA.out
      clear HA
      simp only [spec_ImageFault.l0] at H
      by_cases c10 : x3_2 < (l0_0.length : Int)
      ·rw [if_pos c10] at H
       have c10b0 : decide (x3_2 < (l0_0.length : Int)) = true := decide_eq_true c10
       clear c10
       by_cases c11 : 0 ≤ x3_2
       ·rw [if_pos c11] at H
        have c11b0 := eq_true c11
        have c11b1 : decide (0 ≤ x3_2) = true := decide_eq_true c11
        clear c11
        by_cases c12 : x3_2 ≤ (wrap64 (x3_2 + 8))
        ·rw [if_pos c12] at H
         have c12b0 := eq_true c12
         have c12b1 : decide (x3_2 ≤ (wrap64 (x3_2 + 8))) = true := decide_eq_true c12
         by_cases c13 : (wrap64 (x3_2 + 8)) ≤ (l0_0.length : Int)
         ·rw [if_pos c13] at H
          have c13b0 := eq_true c13
          have c13b1 : decide ((wrap64 (x3_2 + 8)) ≤ (l0_0.length : Int)) = true := decide_eq_true c13
          replace H := Option.bind_eq_some_iff.mp H
          obtain ⟨⟨t137, t138, t139, t140, t141⟩, A140, H⟩ := H
          replace H : ((spec_InsFault.f k2 t137 t138 t139 t140 t141).bind fun t142 => (if t142 = true then (some 2) else (spec_ImageFault.l0 k2 (wrap64 (x3_2 + 8)) l0_0 l0_1 a0_2 l0_3 a0_4 l0_5))) = some r := H
          have A14 := Aside0.mk A140
          clear A140
          replace H := Option.bind_eq_some_iff.mp H
          obtain ⟨t142, A150, H⟩ := H
          replace H : (if t142 = true then (some 2) else (spec_ImageFault.l0 k2 (wrap64 (x3_2 + 8)) l0_0 l0_1 a0_2 l0_3 a0_4 l0_5)) = some r := H
          have A15 := Aside0.mk A150
          clear A150
          by_cases c16 : t142 = true
          ·subst c16
           have H1 : (some 2) = some r := by rw [if_pos rfl] at H; exact H
           clear H
           have H := H1
           clear H1
           obtain rfl := Option.some.inj H
           have hcz17_0 : wr.cell? ⟨gb135, 0, none⟩ = some (.slice A0_0 l0_0.length c0_0) := (blk_cell BK135.out 0).trans rfl
           have hcz17_1 : wr.cell? ⟨gb135, 1, none⟩ = some (.slice A0_1 l0_1.length c0_1) := (blk_cell BK135.out 1).trans rfl
           have hcz17_2 : wr.cell? ⟨gb135, 2, none⟩ = some (.int .i64 a0_2) := (blk_cell BK135.out 2).trans rfl
           have hcz17_3 : wr.cell? ⟨gb135, 3, none⟩ = some (.slice A0_3 l0_3.length c0_3) := (blk_cell BK135.out 3).trans rfl
           have hcz17_4 : wr.cell? ⟨gb135, 4, none⟩ = some (.int .i64 a0_4) := (blk_cell BK135.out 4).trans rfl
           have hcz17_5 : wr.cell? ⟨gb135, 5, none⟩ = some (.slice A0_5 l0_5.length c0_5) := (blk_cell BK135.out 5).trans rfl
           have hfz17_0 := blk_frozen BK135.out 0
           have hfz17_1 := blk_frozen BK135.out 1
           have hfz17_2 := blk_frozen BK135.out 2
           have hfz17_3 := blk_frozen BK135.out 3
           have hfz17_4 := blk_frozen BK135.out 4
           have hfz17_5 := blk_frozen BK135.out 5
           obtain ⟨i018, hi018, _, hsz18, _⟩ := info_parts info5
           obtain ⟨A18, hcut18, hA18, hC18⟩ := print_mid_of (P := Try.prog) (Value.int .u8) 0 36 5 .i64 .i64 Try.underlying36 hi018 hsz18 A0_0 c0_0 l0_0 x3_2 (wrap64 (x3_2 + 8)) (of_decide_eq_true (by first | (with_reducible assumption) | assumption)) (by first | omega | exact of_decide_eq_true (by first | (with_reducible assumption) | assumption)) (of_decide_eq_true (by first | (with_reducible assumption) | assumption)) HC0_0.out
           have HR136 := Aside0.mk (Kd.C_of_reads (h1 := fun _ => rfl) (hA18 _ (Kd.reads_of_C HR0_0.out)))
           have HC136 := Aside0.mk hC18
           clear hA18 hC18 hi018 hsz18
           go_wp2_with (first | ((with_reducible refine gate_callee (f := 52) rfl ?_); refine goesL_ (some 35) rfl rfl Try.func52 (by kernel_rfl) rfl #[.slice A18 ((l0_0.take ((wrap64 (x3_2 + 8)) : Int).toNat).drop (x3_2 : Int).toNat).length (c0_0 - x3_2.toNat)] rfl (by (try simp only [List.map_toArray, List.map_cons, List.map_nil]); first | done | (rw [show ((l0_0.take ((wrap64 (x3_2 + 8)) : Int).toNat).drop (x3_2 : Int).toNat).length = ((wrap64 (x3_2 + 8)).toNat - x3_2.toNat) from (by rw [List.length_drop, List.length_take]; have h_ : ((wrap64 (x3_2 + 8)) : Int) ≤ (l0_0.length : Int) := of_decide_eq_true (by first | (with_reducible assumption) | assumption); omega)] <;> rfl) | rfl | (simp only [List.length_drop, List.length_take]; rfl)) ?_; (with_reducible refine (spec_l16Decode.calls k2 _ _ ((l0_0.take ((wrap64 (x3_2 + 8)) : Int).toNat).drop (x3_2 : Int).toNat) t137 t138 t139 t140 t141 _ ?side1 ?side2 A14.out).mono ?_); (case side1 => repeat (first | exact (Kd.C_below HR136.out HB.out) | (with_reducible refine Kd.C_alloc ?_ _) | (with_reducible refine Kd.C_drewN ?_ _) | (with_reducible refine Kd.C_drew ?_))); (case side2 => exact HC136.out); rintro e w19 ⟨rfl, hb⟩; refine ⟨_, rfl, ?_⟩; have n0_ := Aside0.mk (blk_below (g := gb135) (o := .cells #[.slice A0_0 l0_0.length c0_0, .slice A0_1 l0_1.length c0_1, .int .i64 a0_2, .slice A0_3 l0_3.length c0_3, .int .i64 a0_4, .slice A0_5 l0_5.length c0_5] 44 (0, 0)) (by (with_reducible repeat (first | refine blk_drewN ?_ _ | refine blk_drew ?_ | refine blk_alloc ?_ _)); exact BK135.out) hb); have n1_ := Aside0.mk (below_step (by repeat (first | (with_reducible first | exact HB.out | apply below_alloc | apply pw_below_drewN | apply below_drew1 | refine below_set ?_ GE135.out) | exact HB.out)) hb); clear BK135; clear HB; have BK135 := n0_; have HB := n1_; clear n0_ n1_; (try clear hb); (try clear hb2); (try clear hk); (try clear hi)) | ((with_reducible refine gate_callee (f := 51) rfl ?_); refine goesL_ (some 36) rfl rfl Try.func51 (by kernel_rfl) rfl #[.agg #[.int .i64 t137, .int .i64 t138, .int .i64 t139, .int .i64 t140, .int .i64 t141]] rfl (by (try simp only [List.map_toArray, List.map_cons, List.map_nil]); first | done | rfl | (simp only [List.length_drop, List.length_take]; rfl)) ?_; (with_reducible refine (spec_InsFault.calls k2 t137 t138 t139 t140 t141 true _ A15.out).mono ?_); rintro e w20 ⟨rfl, hb⟩; refine ⟨_, rfl, ?_⟩; have n0_ := Aside0.mk (blk_below (g := gb135) (o := .cells #[.slice A0_0 l0_0.length c0_0, .slice A0_1 l0_1.length c0_1, .int .i64 a0_2, .slice A0_3 l0_3.length c0_3, .int .i64 a0_4, .slice A0_5 l0_5.length c0_5] 44 (0, 0)) (by (with_reducible repeat (first | refine blk_drewN ?_ _ | refine blk_drew ?_ | refine blk_alloc ?_ _)); exact BK135.out) hb); have n1_ := Aside0.mk (below_step (by repeat (first | (with_reducible first | exact HB.out | apply below_alloc | apply pw_below_drewN | apply below_drew1 | refine below_set ?_ GE135.out) | exact HB.out)) hb); clear BK135; clear HB; have BK135 := n0_; have HB := n1_; clear n0_ n1_; (try clear hb); (try clear hb2); (try clear hk); (try clear hi)))
           go_ret
           exact ⟨by first | rfl | (simp [errW_none, errW_some] <;> rfl) | (simp [*, errW_none, errW_some] <;> rfl), by repeat (first | (with_reducible first | exact HB.out | apply below_alloc | apply pw_below_drewN | apply below_drew1 | refine below_set ?_ GE135.out) | exact HB.out)⟩
          ·replace c16 := Bool.eq_false_iff.mpr c16
           subst c16
           have H1 : (spec_ImageFault.l0 k2 (wrap64 (x3_2 + 8)) l0_0 l0_1 a0_2 l0_3 a0_4 l0_5) = some r := by rw [if_neg (show ¬ (false = true) by decide)] at H; exact H
           clear H
           have H := H1
           clear H1
           have H' := Aside0.mk H
           clear H
           have hcz21_0 : wr.cell? ⟨gb135, 0, none⟩ = some (.slice A0_0 l0_0.length c0_0) := (blk_cell BK135.out 0).trans rfl
           have hcz21_1 : wr.cell? ⟨gb135, 1, none⟩ = some (.slice A0_1 l0_1.length c0_1) := (blk_cell BK135.out 1).trans rfl
           have hcz21_2 : wr.cell? ⟨gb135, 2, none⟩ = some (.int .i64 a0_2) := (blk_cell BK135.out 2).trans rfl
           have hcz21_3 : wr.cell? ⟨gb135, 3, none⟩ = some (.slice A0_3 l0_3.length c0_3) := (blk_cell BK135.out 3).trans rfl
           have hcz21_4 : wr.cell? ⟨gb135, 4, none⟩ = some (.int .i64 a0_4) := (blk_cell BK135.out 4).trans rfl
           have hcz21_5 : wr.cell? ⟨gb135, 5, none⟩ = some (.slice A0_5 l0_5.length c0_5) := (blk_cell BK135.out 5).trans rfl
           have hfz21_0 := blk_frozen BK135.out 0
           have hfz21_1 := blk_frozen BK135.out 1
           have hfz21_2 := blk_frozen BK135.out 2
           have hfz21_3 := blk_frozen BK135.out 3
           have hfz21_4 := blk_frozen BK135.out 4
           have hfz21_5 := blk_frozen BK135.out 5
           obtain ⟨i022, hi022, _, hsz22, _⟩ := info_parts info5
           obtain ⟨A22, hcut22, hA22, hC22⟩ := print_mid_of (P := Try.prog) (Value.int .u8) 0 36 5 .i64 .i64 Try.underlying36 hi022 hsz22 A0_0 c0_0 l0_0 x3_2 (wrap64 (x3_2 + 8)) (of_decide_eq_true (by first | (with_reducible assumption) | assumption)) (by first | omega | exact of_decide_eq_true (by first | (with_reducible assumption) | assumption)) (of_decide_eq_true (by first | (with_reducible assumption) | assumption)) HC0_0.out
           have HR136 := Aside0.mk (Kd.C_of_reads (h1 := fun _ => rfl) (hA22 _ (Kd.reads_of_C HR0_0.out)))
           have HC136 := Aside0.mk hC22
           clear hA22 hC22 hi022 hsz22
           go_wp2_with (first | ((with_reducible refine gate_callee (f := 52) rfl ?_); refine goesL_ (some 35) rfl rfl Try.func52 (by kernel_rfl) rfl #[.slice A22 ((l0_0.take ((wrap64 (x3_2 + 8)) : Int).toNat).drop (x3_2 : Int).toNat).length (c0_0 - x3_2.toNat)] rfl (by (try simp only [List.map_toArray, List.map_cons, List.map_nil]); first | done | (rw [show ((l0_0.take ((wrap64 (x3_2 + 8)) : Int).toNat).drop (x3_2 : Int).toNat).length = ((wrap64 (x3_2 + 8)).toNat - x3_2.toNat) from (by rw [List.length_drop, List.length_take]; have h_ : ((wrap64 (x3_2 + 8)) : Int) ≤ (l0_0.length : Int) := of_decide_eq_true (by first | (with_reducible assumption) | assumption); omega)] <;> rfl) | rfl | (simp only [List.length_drop, List.length_take]; rfl)) ?_; (with_reducible refine (spec_l16Decode.calls k2 _ _ ((l0_0.take ((wrap64 (x3_2 + 8)) : Int).toNat).drop (x3_2 : Int).toNat) t137 t138 t139 t140 t141 _ ?side1 ?side2 A14.out).mono ?_); (case side1 => repeat (first | exact (Kd.C_below HR136.out HB.out) | (with_reducible refine Kd.C_alloc ?_ _) | (with_reducible refine Kd.C_drewN ?_ _) | (with_reducible refine Kd.C_drew ?_))); (case side2 => exact HC136.out); rintro e w23 ⟨rfl, hb⟩; refine ⟨_, rfl, ?_⟩; have n0_ := Aside0.mk (blk_below (g := gb135) (o := .cells #[.slice A0_0 l0_0.length c0_0, .slice A0_1 l0_1.length c0_1, .int .i64 a0_2, .slice A0_3 l0_3.length c0_3, .int .i64 a0_4, .slice A0_5 l0_5.length c0_5] 44 (0, 0)) (by (with_reducible repeat (first | refine blk_drewN ?_ _ | refine blk_drew ?_ | refine blk_alloc ?_ _)); exact BK135.out) hb); have n1_ := Aside0.mk (below_step (by repeat (first | (with_reducible first | exact HB.out | apply below_alloc | apply pw_below_drewN | apply below_drew1 | refine below_set ?_ GE135.out) | exact HB.out)) hb); clear BK135; clear HB; have BK135 := n0_; have HB := n1_; clear n0_ n1_; (try clear hb); (try clear hb2); (try clear hk); (try clear hi)) | ((with_reducible refine gate_callee (f := 51) rfl ?_); refine goesL_ (some 36) rfl rfl Try.func51 (by kernel_rfl) rfl #[.agg #[.int .i64 t137, .int .i64 t138, .int .i64 t139, .int .i64 t140, .int .i64 t141]] rfl (by (try simp only [List.map_toArray, List.map_cons, List.map_nil]); first | done | rfl | (simp only [List.length_drop, List.length_take]; rfl)) ?_; (with_reducible refine (spec_InsFault.calls k2 t137 t138 t139 t140 t141 false _ A15.out).mono ?_); rintro e w24 ⟨rfl, hb⟩; refine ⟨_, rfl, ?_⟩; have n0_ := Aside0.mk (blk_below (g := gb135) (o := .cells #[.slice A0_0 l0_0.length c0_0, .slice A0_1 l0_1.length c0_1, .int .i64 a0_2, .slice A0_3 l0_3.length c0_3, .int .i64 a0_4, .slice A0_5 l0_5.length c0_5] 44 (0, 0)) (by (with_reducible repeat (first | refine blk_drewN ?_ _ | refine blk_drew ?_ | refine blk_alloc ?_ _)); exact BK135.out) hb); have n1_ := Aside0.mk (below_step (by repeat (first | (with_reducible first | exact HB.out | apply below_alloc | apply pw_below_drewN | apply below_drew1 | refine below_set ?_ GE135.out) | exact HB.out)) hb); clear BK135; clear HB; have BK135 := n0_; have HB := n1_; clear n0_ n1_; (try clear hb); (try clear hb2); (try clear hk); (try clear hi)))
           go_roundg k2
           case measure => have := HJ1.out; have := HK2.out; omega
           case rel => exact ⟨(wrap64 (x3_2 + 8)), (by first | rfl | (simp; done) | (simp [*]; done)), H', ⟨by have := HJ1.out; have := HK2.out; omega⟩, ⟨by (with_reducible repeat (first | refine blk_drewN ?_ _ | refine blk_drew ?_ | refine blk_alloc ?_ _)); exact BK135.out⟩, ⟨by repeat (first | (with_reducible first | exact HB.out | apply below_alloc | apply pw_below_drewN | apply below_drew1 | refine below_set ?_ GE135.out) | exact HB.out)⟩⟩
         ·rw [if_neg c13] at H
          exact absurd H (by simp)
        ·rw [if_neg c12] at H
         exact absurd H (by simp)
       ·rw [if_neg c11] at H
        exact absurd H (by simp)
      ·rw [if_neg c10] at H
       have c10b0 : decide (x3_2 < (l0_0.length : Int)) = false := decide_eq_false c10
       clear c10
       by_cases c25 : (l0_1.length : Int) > 1048576
       ·rw [if_pos c25] at H
        have c25b0 : decide (1048576 < (l0_1.length : Int)) = true := decide_eq_true c25
        have c25b1 : decide (1048576 < l0_1.length) = true := decide_eq_true (by omega)
        clear c25
        obtain rfl := Option.some.inj H
        have hcz26_0 : wr.cell? ⟨gb135, 0, none⟩ = some (.slice A0_0 l0_0.length c0_0) := (blk_cell BK135.out 0).trans rfl
        have hcz26_1 : wr.cell? ⟨gb135, 1, none⟩ = some (.slice A0_1 l0_1.length c0_1) := (blk_cell BK135.out 1).trans rfl
        have hcz26_2 : wr.cell? ⟨gb135, 2, none⟩ = some (.int .i64 a0_2) := (blk_cell BK135.out 2).trans rfl
        have hcz26_3 : wr.cell? ⟨gb135, 3, none⟩ = some (.slice A0_3 l0_3.length c0_3) := (blk_cell BK135.out 3).trans rfl
        have hcz26_4 : wr.cell? ⟨gb135, 4, none⟩ = some (.int .i64 a0_4) := (blk_cell BK135.out 4).trans rfl
        have hcz26_5 : wr.cell? ⟨gb135, 5, none⟩ = some (.slice A0_5 l0_5.length c0_5) := (blk_cell BK135.out 5).trans rfl
        have hfz26_0 := blk_frozen BK135.out 0
        have hfz26_1 := blk_frozen BK135.out 1
        have hfz26_2 := blk_frozen BK135.out 2
        have hfz26_3 := blk_frozen BK135.out 3
        have hfz26_4 := blk_frozen BK135.out 4
        have hfz26_5 := blk_frozen BK135.out 5
        go_wp2
        go_ret
        exact ⟨by first | rfl | (simp [errW_none, errW_some] <;> rfl) | (simp [*, errW_none, errW_some] <;> rfl), by repeat (first | (with_reducible first | exact HB.out | apply below_alloc | apply pw_below_drewN | apply below_drew1 | refine below_set ?_ GE135.out) | exact HB.out)⟩
       ·rw [if_neg c25] at H
        have c25b0 : decide (1048576 < (l0_1.length : Int)) = false := decide_eq_false c25
        have c25b1 : decide (1048576 < l0_1.length) = false := decide_eq_false (by omega)
        clear c25
        have HC27 := Aside0.mk H
        clear H
        have hcz28_0 : wr.cell? ⟨gb135, 0, none⟩ = some (.slice A0_0 l0_0.length c0_0) := (blk_cell BK135.out 0).trans rfl
        have hcz28_1 : wr.cell? ⟨gb135, 1, none⟩ = some (.slice A0_1 l0_1.length c0_1) := (blk_cell BK135.out 1).trans rfl
        have hcz28_2 : wr.cell? ⟨gb135, 2, none⟩ = some (.int .i64 a0_2) := (blk_cell BK135.out 2).trans rfl
        have hcz28_3 : wr.cell? ⟨gb135, 3, none⟩ = some (.slice A0_3 l0_3.length c0_3) := (blk_cell BK135.out 3).trans rfl
        have hcz28_4 : wr.cell? ⟨gb135, 4, none⟩ = some (.int .i64 a0_4) := (blk_cell BK135.out 4).trans rfl
        have hcz28_5 : wr.cell? ⟨gb135, 5, none⟩ = some (.slice A0_5 l0_5.length c0_5) := (blk_cell BK135.out 5).trans rfl
        have hfz28_0 := blk_frozen BK135.out 0
        have hfz28_1 := blk_frozen BK135.out 1
        have hfz28_2 := blk_frozen BK135.out 2
        have hfz28_3 := blk_frozen BK135.out 3
        have hfz28_4 := blk_frozen BK135.out 4
        have hfz28_5 := blk_frozen BK135.out 5
        go_upto_region 10 with (fail)
        go_cut [52] (fun v52 wc => ∃ (kq : Nat) (x52_26 : Bool), v52 = .bool x52_26 ∧ Aside0 (spec_ImageFault.j2 kq x52_26 l0_0 l0_1 a0_2 l0_3 a0_4 l0_5 = some r) ∧ Aside0 (kq ≤ k2) ∧ Aside0 (wc.heap[gb135]? = some (.cells #[(.slice A0_0 l0_0.length c0_0), (.slice A0_1 l0_1.length c0_1), .int .i64 a0_2, (.slice A0_3 l0_3.length c0_3), .int .i64 a0_4, (.slice A0_5 l0_5.length c0_5)] 44 (0, 0))) ∧ Aside0 (Below w.heap.size w wc))
        case first =>
         have H := HC27.out
         clear HC27
         by_cases c29 : a0_2 < 0
         ·rw [if_pos c29] at H
          have c29b0 : decide (a0_2 < 0) = true := decide_eq_true c29
          clear c29
          (first | rw [c29b0] | (simp only [i64_w, i32_w]; rw [c29b0]) | skip)
          have H' := Aside0.mk H
          clear H
          have hcz30_0 : wr.cell? ⟨gb135, 0, none⟩ = some (.slice A0_0 l0_0.length c0_0) := (blk_cell BK135.out 0).trans rfl
          have hcz30_1 : wr.cell? ⟨gb135, 1, none⟩ = some (.slice A0_1 l0_1.length c0_1) := (blk_cell BK135.out 1).trans rfl
          have hcz30_2 : wr.cell? ⟨gb135, 2, none⟩ = some (.int .i64 a0_2) := (blk_cell BK135.out 2).trans rfl
          have hcz30_3 : wr.cell? ⟨gb135, 3, none⟩ = some (.slice A0_3 l0_3.length c0_3) := (blk_cell BK135.out 3).trans rfl
          have hcz30_4 : wr.cell? ⟨gb135, 4, none⟩ = some (.int .i64 a0_4) := (blk_cell BK135.out 4).trans rfl
          have hcz30_5 : wr.cell? ⟨gb135, 5, none⟩ = some (.slice A0_5 l0_5.length c0_5) := (blk_cell BK135.out 5).trans rfl
          have hfz30_0 := blk_frozen BK135.out 0
          have hfz30_1 := blk_frozen BK135.out 1
          have hfz30_2 := blk_frozen BK135.out 2
          have hfz30_3 := blk_frozen BK135.out 3
          have hfz30_4 := blk_frozen BK135.out 4
          have hfz30_5 := blk_frozen BK135.out 5
          go_wp2
          go_meet
          case rel => exact ⟨_, (true), (by first | rfl | (simp; done) | (simp [*]; done)), H', ⟨by have := HJ1.out; have := HK2.out; first | omega | exact Nat.le_refl _⟩, ⟨by (with_reducible repeat (first | refine blk_drewN ?_ _ | refine blk_drew ?_ | refine blk_alloc ?_ _)); exact BK135.out⟩, ⟨by repeat (first | (with_reducible first | exact HB.out | apply below_alloc | apply pw_below_drewN | apply below_drew1 | refine below_set ?_ GE135.out) | exact HB.out)⟩⟩
         ·rw [if_neg c29] at H
          have c29b0 : decide (a0_2 < 0) = false := decide_eq_false c29
          clear c29
          (first | rw [c29b0] | (simp only [i64_w, i32_w]; rw [c29b0]) | skip)
          have H' := Aside0.mk H
          clear H
          have hcz31_0 : wr.cell? ⟨gb135, 0, none⟩ = some (.slice A0_0 l0_0.length c0_0) := (blk_cell BK135.out 0).trans rfl
          have hcz31_1 : wr.cell? ⟨gb135, 1, none⟩ = some (.slice A0_1 l0_1.length c0_1) := (blk_cell BK135.out 1).trans rfl
          have hcz31_2 : wr.cell? ⟨gb135, 2, none⟩ = some (.int .i64 a0_2) := (blk_cell BK135.out 2).trans rfl
          have hcz31_3 : wr.cell? ⟨gb135, 3, none⟩ = some (.slice A0_3 l0_3.length c0_3) := (blk_cell BK135.out 3).trans rfl
          have hcz31_4 : wr.cell? ⟨gb135, 4, none⟩ = some (.int .i64 a0_4) := (blk_cell BK135.out 4).trans rfl
          have hcz31_5 : wr.cell? ⟨gb135, 5, none⟩ = some (.slice A0_5 l0_5.length c0_5) := (blk_cell BK135.out 5).trans rfl
          have hfz31_0 := blk_frozen BK135.out 0
          have hfz31_1 := blk_frozen BK135.out 1
          have hfz31_2 := blk_frozen BK135.out 2
          have hfz31_3 := blk_frozen BK135.out 3
          have hfz31_4 := blk_frozen BK135.out 4
          have hfz31_5 := blk_frozen BK135.out 5
          go_wp2
          go_meet
          case rel => exact ⟨_, (decide (a0_2 ≥ (wrap64 ((l0_0.length : Int) / 8)))), (by first | rfl | (simp; done) | (simp [*]; done)), H', ⟨by have := HJ1.out; have := HK2.out; first | omega | exact Nat.le_refl _⟩, ⟨by (with_reducible repeat (first | refine blk_drewN ?_ _ | refine blk_drew ?_ | refine blk_alloc ?_ _)); exact BK135.out⟩, ⟨by repeat (first | (with_reducible first | exact HB.out | apply below_alloc | apply pw_below_drewN | apply below_drew1 | refine below_set ?_ GE135.out) | exact HB.out)⟩⟩
        case rest =>
         clear HC27
         try clear c1
         try clear c2
         try clear p2
         try clear c4
         try clear c4b0
         try clear c4b1
         try clear c5
         try clear c5b0
         try clear c5b1
         try clear c5b2
         try clear p6
         try clear c9
         try clear c10
         try clear c10b0
         try clear c11
         try clear c11b0
         try clear c11b1
         try clear c12
         try clear c12b0
         try clear c12b1
         try clear c13
         try clear c13b0
         try clear c13b1
         try clear c16
         try clear c25
         try clear c25b0
         try clear c25b1
         try clear c28
         try clear c29
         try clear c29b0
         try clear hcz17_0
         try clear hcz17_1
         try clear hcz17_2
         try clear hcz17_3
         try clear hcz17_4
         try clear hcz17_5
         try clear hcz21_0
         try clear hcz21_1
         try clear hcz21_2
         try clear hcz21_3
         try clear hcz21_4
         try clear hcz21_5
         try clear hcz26_0
         try clear hcz26_1
         try clear hcz26_2
         try clear hcz26_3
         try clear hcz26_4
         try clear hcz26_5
         try clear hcz28_0
         try clear hcz28_1
         try clear hcz28_2
         try clear hcz28_3
         try clear hcz28_4
         try clear hcz28_5
         try clear hcz30_0
         try clear hcz30_1
         try clear hcz30_2
         try clear hcz30_3
         try clear hcz30_4
         try clear hcz30_5
         try clear hcz31_0
         try clear hcz31_1
         try clear hcz31_2
         try clear hcz31_3
         try clear hcz31_4
         try clear hcz31_5
         try clear hcz6_0
         try clear hcz6_1
         try clear hcz6_2
         try clear hcz6_3
         try clear hcz6_4
         try clear hcz6_5
         try clear hcz7_0
         try clear hcz7_1
         try clear hcz7_2
         try clear hcz7_3
         try clear hcz7_4
         try clear hcz7_5
         try clear hcz8_0
         try clear hcz8_1
         try clear hcz8_2
         try clear hcz8_3
         try clear hcz8_4
         try clear hcz8_5
         try clear hfz17_0
         try clear hfz17_1
         try clear hfz17_2
         try clear hfz17_3
         try clear hfz17_4
         try clear hfz17_5
         try clear hfz21_0
         try clear hfz21_1
         try clear hfz21_2
         try clear hfz21_3
         try clear hfz21_4
         try clear hfz21_5
         try clear hfz26_0
         try clear hfz26_1
         try clear hfz26_2
         try clear hfz26_3
         try clear hfz26_4
         try clear hfz26_5
         try clear hfz28_0
         try clear hfz28_1
         try clear hfz28_2
         try clear hfz28_3
         try clear hfz28_4
         try clear hfz28_5
         try clear hfz30_0
         try clear hfz30_1
         try clear hfz30_2
         try clear hfz30_3
         try clear hfz30_4
         try clear hfz30_5
         try clear hfz31_0
         try clear hfz31_1
         try clear hfz31_2
         try clear hfz31_3
         try clear hfz31_4
         try clear hfz31_5
         try clear hfz6_0
         try clear hfz6_1
         try clear hfz6_2
         try clear hfz6_3
         try clear hfz6_4
         try clear hfz6_5
         try clear hfz7_0
         try clear hfz7_1
         try clear hfz7_2
         try clear hfz7_3
         try clear hfz7_4
         try clear hfz7_5
         try clear hfz8_0
         try clear hfz8_1
         try clear hfz8_2
         try clear hfz8_3
         try clear hfz8_4
         try clear hfz8_5
         try clear p2
         obtain ⟨kq, x52_26, rfl, HA, HJ26, BK135, HB⟩ := hcut
         cases kq with
         | zero => exact absurd HA.out (by simp [spec_ImageFault.j2])
         | succ kj26 =>
          have H := HA.out
          clear HA
          simp only [spec_ImageFault.j2] at H
          by_cases c32 : x52_26 = true
          ·subst c32
           have H1 : (some 4) = some r := by rw [if_pos rfl] at H; exact H
           clear H
           have H := H1
           clear H1
           obtain rfl := Option.some.inj H
           go_wp2
           go_ret
           exact ⟨by first | rfl | (simp [errW_none, errW_some] <;> rfl) | (simp [*, errW_none, errW_some] <;> rfl), by repeat (first | (with_reducible first | exact HB.out | apply below_alloc | apply pw_below_drewN | apply below_drew1 | refine below_set ?_ GE135.out) | exact HB.out)⟩
          ·replace c32 := Bool.eq_false_iff.mpr c32
           subst c32
           have H1 : (if (l0_3.length : Int) > 6 then (spec_ImageFault.j3 kj26 true l0_0 l0_1 a0_2 l0_3 a0_4 l0_5) else (if a0_4 = 0 then (spec_ImageFault.j3 kj26 false l0_0 l0_1 a0_2 l0_3 a0_4 l0_5) else ((spec_ValidType.f a0_4).bind fun t143 => (spec_ImageFault.j3 kj26 (!t143) l0_0 l0_1 a0_2 l0_3 a0_4 l0_5)))) = some r := by rw [if_neg (show ¬ (false = true) by decide)] at H; exact H
           clear H
           have H := H1
           clear H1
           have HC33 := Aside0.mk H
           clear H
           go_upto_region 12 with (fail)
           go_cut [67] (fun v67 wc => ∃ (kq : Nat) (x67_32 : Bool), v67 = .bool x67_32 ∧ Aside0 (spec_ImageFault.j3 kq x67_32 l0_0 l0_1 a0_2 l0_3 a0_4 l0_5 = some r) ∧ Aside0 (kq ≤ kj26) ∧ Aside0 (wc.heap[gb135]? = some (.cells #[(.slice A0_0 l0_0.length c0_0), (.slice A0_1 l0_1.length c0_1), .int .i64 a0_2, (.slice A0_3 l0_3.length c0_3), .int .i64 a0_4, (.slice A0_5 l0_5.length c0_5)] 44 (0, 0))) ∧ Aside0 (Below w.heap.size w wc))
           case first =>
            have H := HC33.out
            clear HC33
            by_cases c34 : (l0_3.length : Int) > 6
            ·rw [if_pos c34] at H
             have c34b0 : decide (6 < (l0_3.length : Int)) = true := decide_eq_true c34
             have c34b1 : decide (6 < l0_3.length) = true := decide_eq_true (by omega)
             clear c34
             (first | rw [c34b0] | (simp only [i64_w, i32_w]; rw [c34b0]) | skip)
             have H' := Aside0.mk H
             clear H
             have hcz35_0 : wc.cell? ⟨gb135, 0, none⟩ = some (.slice A0_0 l0_0.length c0_0) := (blk_cell BK135.out 0).trans rfl
             have hcz35_1 : wc.cell? ⟨gb135, 1, none⟩ = some (.slice A0_1 l0_1.length c0_1) := (blk_cell BK135.out 1).trans rfl
             have hcz35_2 : wc.cell? ⟨gb135, 2, none⟩ = some (.int .i64 a0_2) := (blk_cell BK135.out 2).trans rfl
             have hcz35_3 : wc.cell? ⟨gb135, 3, none⟩ = some (.slice A0_3 l0_3.length c0_3) := (blk_cell BK135.out 3).trans rfl
             have hcz35_4 : wc.cell? ⟨gb135, 4, none⟩ = some (.int .i64 a0_4) := (blk_cell BK135.out 4).trans rfl
             have hcz35_5 : wc.cell? ⟨gb135, 5, none⟩ = some (.slice A0_5 l0_5.length c0_5) := (blk_cell BK135.out 5).trans rfl
             have hfz35_0 := blk_frozen BK135.out 0
             have hfz35_1 := blk_frozen BK135.out 1
             have hfz35_2 := blk_frozen BK135.out 2
             have hfz35_3 := blk_frozen BK135.out 3
             have hfz35_4 := blk_frozen BK135.out 4
             have hfz35_5 := blk_frozen BK135.out 5
             go_wp2
             go_meet
             case rel => exact ⟨_, (true), (by first | rfl | (simp; done) | (simp [*]; done)), H', ⟨by have := HJ1.out; have := HK2.out; have := HJ26.out; first | omega | exact Nat.le_refl _⟩, ⟨by (with_reducible repeat (first | refine blk_drewN ?_ _ | refine blk_drew ?_ | refine blk_alloc ?_ _)); exact BK135.out⟩, ⟨by repeat (first | (with_reducible first | exact HB.out | apply below_alloc | apply pw_below_drewN | apply below_drew1 | refine below_set ?_ GE135.out) | exact HB.out)⟩⟩
            ·rw [if_neg c34] at H
             have c34b0 : decide (6 < (l0_3.length : Int)) = false := decide_eq_false c34
             have c34b1 : decide (6 < l0_3.length) = false := decide_eq_false (by omega)
             clear c34
             (first | rw [c34b0] | (simp only [i64_w, i32_w]; rw [c34b0]) | skip)
             by_cases c36 : a0_4 = 0
             ·rw [if_pos c36] at H
              have c36b0 : (a0_4 == 0) = true := beq_iff_eq.mpr c36
              have c36b1 : (a0_4 != 0) = false := bne_eq_false_iff_eq.mpr c36
              clear c36
              have H' := Aside0.mk H
              clear H
              have hcz37_0 : wc.cell? ⟨gb135, 0, none⟩ = some (.slice A0_0 l0_0.length c0_0) := (blk_cell BK135.out 0).trans rfl
              have hcz37_1 : wc.cell? ⟨gb135, 1, none⟩ = some (.slice A0_1 l0_1.length c0_1) := (blk_cell BK135.out 1).trans rfl
              have hcz37_2 : wc.cell? ⟨gb135, 2, none⟩ = some (.int .i64 a0_2) := (blk_cell BK135.out 2).trans rfl
              have hcz37_3 : wc.cell? ⟨gb135, 3, none⟩ = some (.slice A0_3 l0_3.length c0_3) := (blk_cell BK135.out 3).trans rfl
              have hcz37_4 : wc.cell? ⟨gb135, 4, none⟩ = some (.int .i64 a0_4) := (blk_cell BK135.out 4).trans rfl
              have hcz37_5 : wc.cell? ⟨gb135, 5, none⟩ = some (.slice A0_5 l0_5.length c0_5) := (blk_cell BK135.out 5).trans rfl
              have hfz37_0 := blk_frozen BK135.out 0
              have hfz37_1 := blk_frozen BK135.out 1
              have hfz37_2 := blk_frozen BK135.out 2
              have hfz37_3 := blk_frozen BK135.out 3
              have hfz37_4 := blk_frozen BK135.out 4
              have hfz37_5 := blk_frozen BK135.out 5
              go_wp2
              go_meet
              case rel => exact ⟨_, (false), (by first | rfl | (simp; done) | (simp [*]; done)), H', ⟨by have := HJ1.out; have := HK2.out; have := HJ26.out; first | omega | exact Nat.le_refl _⟩, ⟨by (with_reducible repeat (first | refine blk_drewN ?_ _ | refine blk_drew ?_ | refine blk_alloc ?_ _)); exact BK135.out⟩, ⟨by repeat (first | (with_reducible first | exact HB.out | apply below_alloc | apply pw_below_drewN | apply below_drew1 | refine below_set ?_ GE135.out) | exact HB.out)⟩⟩
             ·rw [if_neg c36] at H
              have c36b0 : (a0_4 == 0) = false := beq_eq_false_iff_ne.mpr c36
              have c36b1 : (a0_4 != 0) = true := bne_iff_ne.mpr c36
              replace H := Option.bind_eq_some_iff.mp H
              obtain ⟨t143, A380, H⟩ := H
              replace H : (spec_ImageFault.j3 kj26 (!t143) l0_0 l0_1 a0_2 l0_3 a0_4 l0_5) = some r := H
              have A38 := Aside0.mk A380
              clear A380
              have H' := Aside0.mk H
              clear H
              have hcz39_0 : wc.cell? ⟨gb135, 0, none⟩ = some (.slice A0_0 l0_0.length c0_0) := (blk_cell BK135.out 0).trans rfl
              have hcz39_1 : wc.cell? ⟨gb135, 1, none⟩ = some (.slice A0_1 l0_1.length c0_1) := (blk_cell BK135.out 1).trans rfl
              have hcz39_2 : wc.cell? ⟨gb135, 2, none⟩ = some (.int .i64 a0_2) := (blk_cell BK135.out 2).trans rfl
              have hcz39_3 : wc.cell? ⟨gb135, 3, none⟩ = some (.slice A0_3 l0_3.length c0_3) := (blk_cell BK135.out 3).trans rfl
              have hcz39_4 : wc.cell? ⟨gb135, 4, none⟩ = some (.int .i64 a0_4) := (blk_cell BK135.out 4).trans rfl
              have hcz39_5 : wc.cell? ⟨gb135, 5, none⟩ = some (.slice A0_5 l0_5.length c0_5) := (blk_cell BK135.out 5).trans rfl
              have hfz39_0 := blk_frozen BK135.out 0
              have hfz39_1 := blk_frozen BK135.out 1
              have hfz39_2 := blk_frozen BK135.out 2
              have hfz39_3 := blk_frozen BK135.out 3
              have hfz39_4 := blk_frozen BK135.out 4
              have hfz39_5 := blk_frozen BK135.out 5
              go_wp2_with (first | (go_at_call 25; (with_reducible refine (spec_ValidType.calls a0_4 t143 _ A38.out).mono ?_); rintro e w' ⟨rfl, ⟨nd, rfl⟩⟩))
              go_meet
              case rel => exact ⟨_, (!t143), (by first | rfl | (simp; done) | (simp [*]; done)), H', ⟨by have := HJ1.out; have := HK2.out; have := HJ26.out; first | omega | exact Nat.le_refl _⟩, ⟨by (with_reducible repeat (first | refine blk_drewN ?_ _ | refine blk_drew ?_ | refine blk_alloc ?_ _)); exact BK135.out⟩, ⟨by repeat (first | (with_reducible first | exact HB.out | apply below_alloc | apply pw_below_drewN | apply below_drew1 | refine below_set ?_ GE135.out) | exact HB.out)⟩⟩
           case rest =>
            clear HC33
            try clear c1
            try clear c2
            try clear p2
            try clear c3
            try clear c4
            try clear c4b0
            try clear c4b1
            try clear c5
            try clear c5b0
            try clear c5b1
            try clear c5b2
            try clear p6
            try clear c9
            try clear c10
            try clear c10b0
            try clear c11
            try clear c11b0
            try clear c11b1
            try clear c12
            try clear c12b0
            try clear c12b1
            try clear c13
            try clear c13b0
            try clear c13b1
            try clear c16
            try clear c25
            try clear c25b0
            try clear c25b1
            try clear c28
            try clear c29
            try clear c29b0
            try clear c32
            try clear c34
            try clear c34b0
            try clear c34b1
            try clear c36
            try clear c36b0
            try clear c36b1
            try clear hcz17_0
            try clear hcz17_1
            try clear hcz17_2
            try clear hcz17_3
            try clear hcz17_4
            try clear hcz17_5
            try clear hcz21_0
            try clear hcz21_1
            try clear hcz21_2
            try clear hcz21_3
            try clear hcz21_4
            try clear hcz21_5
            try clear hcz26_0
            try clear hcz26_1
            try clear hcz26_2
            try clear hcz26_3
            try clear hcz26_4
            try clear hcz26_5
            try clear hcz28_0
            try clear hcz28_1
            try clear hcz28_2
            try clear hcz28_3
            try clear hcz28_4
            try clear hcz28_5
            try clear hcz30_0
            try clear hcz30_1
            try clear hcz30_2
            try clear hcz30_3
            try clear hcz30_4
            try clear hcz30_5
            try clear hcz31_0
            try clear hcz31_1
            try clear hcz31_2
            try clear hcz31_3
            try clear hcz31_4
            try clear hcz31_5
            try clear hcz35_0
            try clear hcz35_1
            try clear hcz35_2
            try clear hcz35_3
            try clear hcz35_4
            try clear hcz35_5
            try clear hcz37_0
            try clear hcz37_1
            try clear hcz37_2
            try clear hcz37_3
            try clear hcz37_4
            try clear hcz37_5
            try clear hcz39_0
            try clear hcz39_1
            try clear hcz39_2
            try clear hcz39_3
            try clear hcz39_4
            try clear hcz39_5
            try clear hcz6_0
            try clear hcz6_1
            try clear hcz6_2
            try clear hcz6_3
            try clear hcz6_4
            try clear hcz6_5
            try clear hcz7_0
            try clear hcz7_1
            try clear hcz7_2
            try clear hcz7_3
            try clear hcz7_4
            try clear hcz7_5
            try clear hcz8_0
            try clear hcz8_1
            try clear hcz8_2
            try clear hcz8_3
            try clear hcz8_4
            try clear hcz8_5
            try clear hfz17_0
            try clear hfz17_1
            try clear hfz17_2
            try clear hfz17_3
            try clear hfz17_4
            try clear hfz17_5
            try clear hfz21_0
            try clear hfz21_1
            try clear hfz21_2
            try clear hfz21_3
            try clear hfz21_4
            try clear hfz21_5
            try clear hfz26_0
            try clear hfz26_1
            try clear hfz26_2
            try clear hfz26_3
            try clear hfz26_4
            try clear hfz26_5
            try clear hfz28_0
            try clear hfz28_1
            try clear hfz28_2
            try clear hfz28_3
            try clear hfz28_4
            try clear hfz28_5
            try clear hfz30_0
            try clear hfz30_1
            try clear hfz30_2
            try clear hfz30_3
            try clear hfz30_4
            try clear hfz30_5
            try clear hfz31_0
            try clear hfz31_1
            try clear hfz31_2
            try clear hfz31_3
            try clear hfz31_4
            try clear hfz31_5
            try clear hfz35_0
            try clear hfz35_1
            try clear hfz35_2
            try clear hfz35_3
            try clear hfz35_4
            try clear hfz35_5
            try clear hfz37_0
            try clear hfz37_1
            try clear hfz37_2
            try clear hfz37_3
            try clear hfz37_4
            try clear hfz37_5
            try clear hfz39_0
            try clear hfz39_1
            try clear hfz39_2
            try clear hfz39_3
            try clear hfz39_4
            try clear hfz39_5
            try clear hfz6_0
            try clear hfz6_1
            try clear hfz6_2
            try clear hfz6_3
            try clear hfz6_4
            try clear hfz6_5
            try clear hfz7_0
            try clear hfz7_1
            try clear hfz7_2
            try clear hfz7_3
            try clear hfz7_4
            try clear hfz7_5
            try clear hfz8_0
            try clear hfz8_1
            try clear hfz8_2
            try clear hfz8_3
            try clear hfz8_4
            try clear hfz8_5
            try clear p2
            try clear p6
            obtain ⟨kq, x67_32, rfl, HA, HJ32, BK135, HB⟩ := hcut
            cases kq with
            | zero => exact absurd HA.out (by simp [spec_ImageFault.j3])
            | succ kj32 =>
             have H := HA.out
             clear HA
             simp only [spec_ImageFault.j3] at H
             by_cases c40 : x67_32 = true
             ·subst c40
              have H1 : (some 5) = some r := by rw [if_pos rfl] at H; exact H
              clear H
              have H := H1
              clear H1
              obtain rfl := Option.some.inj H
              go_wp2
              go_ret
              exact ⟨by first | rfl | (simp [errW_none, errW_some] <;> rfl) | (simp [*, errW_none, errW_some] <;> rfl), by repeat (first | (with_reducible first | exact HB.out | apply below_alloc | apply pw_below_drewN | apply below_drew1 | refine below_set ?_ GE135.out) | exact HB.out)⟩
             ·replace c40 := Bool.eq_false_iff.mpr c40
              subst c40
              have H1 : (spec_ImageFault.l1 kj32 0 l0_0 l0_1 a0_2 l0_3 a0_4 l0_5) = some r := by rw [if_neg (show ¬ (false = true) by decide)] at H; exact H
              clear H
              have H := H1
              clear H1
              have H' := Aside0.mk H
              clear H
              go_wp2
              go_loopg [4] kj32 (fun kq v4 w' => ∃ (x4_5 : Int), v4 = .int .i64 x4_5 ∧ Aside0 (spec_ImageFault.l1 kq x4_5 l0_0 l0_1 a0_2 l0_3 a0_4 l0_5 = some r) ∧ Aside0 (kq ≤ kj32) ∧ Aside0 (w'.heap[gb135]? = some (.cells #[(.slice A0_0 l0_0.length c0_0), (.slice A0_1 l0_1.length c0_1), .int .i64 a0_2, (.slice A0_3 l0_3.length c0_3), .int .i64 a0_4, (.slice A0_5 l0_5.length c0_5)] 44 (0, 0))) ∧ Aside0 (Below w.heap.size w w'))
              case atStart => exact ⟨(0), (by first | rfl | (simp; done) | (simp [*]; done)), H', ⟨Nat.le_refl _⟩, ⟨by (with_reducible repeat (first | refine blk_drewN ?_ _ | refine blk_drew ?_ | refine blk_alloc ?_ _)); exact BK135.out⟩, ⟨by repeat (first | (with_reducible first | exact HB.out | apply below_alloc | apply pw_below_drewN | apply below_drew1 | refine below_set ?_ GE135.out) | exact HB.out)⟩⟩
              case round =>
               clear H'
               try clear c1
               try clear c2
               try clear p2
               try clear c3
               try clear c4
               try clear c4b0
               try clear c4b1
               try clear c5
               try clear c5b0
               try clear c5b1
               try clear c5b2
               try clear p6
               try clear c9
               try clear c10
               try clear c10b0
               try clear c11
               try clear c11b0
               try clear c11b1
               try clear c12
               try clear c12b0
               try clear c12b1
               try clear c13
               try clear c13b0
               try clear c13b1
               try clear c16
               try clear c25
               try clear c25b0
               try clear c25b1
               try clear c28
               try clear c29
               try clear c29b0
               try clear c32
               try clear c34
               try clear c34b0
               try clear c34b1
               try clear c36
               try clear c36b0
               try clear c36b1
               try clear c40
               try clear hcz17_0
               try clear hcz17_1
               try clear hcz17_2
               try clear hcz17_3
               try clear hcz17_4
               try clear hcz17_5
               try clear hcz21_0
               try clear hcz21_1
               try clear hcz21_2
               try clear hcz21_3
               try clear hcz21_4
               try clear hcz21_5
               try clear hcz26_0
               try clear hcz26_1
               try clear hcz26_2
               try clear hcz26_3
               try clear hcz26_4
               try clear hcz26_5
               try clear hcz28_0
               try clear hcz28_1
               try clear hcz28_2
               try clear hcz28_3
               try clear hcz28_4
               try clear hcz28_5
               try clear hcz30_0
               try clear hcz30_1
               try clear hcz30_2
               try clear hcz30_3
               try clear hcz30_4
               try clear hcz30_5
               try clear hcz31_0
               try clear hcz31_1
               try clear hcz31_2
               try clear hcz31_3
               try clear hcz31_4
               try clear hcz31_5
               try clear hcz35_0
               try clear hcz35_1
               try clear hcz35_2
               try clear hcz35_3
               try clear hcz35_4
               try clear hcz35_5
               try clear hcz37_0
               try clear hcz37_1
               try clear hcz37_2
               try clear hcz37_3
               try clear hcz37_4
               try clear hcz37_5
               try clear hcz39_0
               try clear hcz39_1
               try clear hcz39_2
               try clear hcz39_3
               try clear hcz39_4
               try clear hcz39_5
               try clear hcz6_0
               try clear hcz6_1
               try clear hcz6_2
               try clear hcz6_3
               try clear hcz6_4
               try clear hcz6_5
               try clear hcz7_0
               try clear hcz7_1
               try clear hcz7_2
               try clear hcz7_3
               try clear hcz7_4
               try clear hcz7_5
               try clear hcz8_0
               try clear hcz8_1
               try clear hcz8_2
               try clear hcz8_3
               try clear hcz8_4
               try clear hcz8_5
               try clear hfz17_0
               try clear hfz17_1
               try clear hfz17_2
               try clear hfz17_3
               try clear hfz17_4
               try clear hfz17_5
               try clear hfz21_0
               try clear hfz21_1
               try clear hfz21_2
               try clear hfz21_3
               try clear hfz21_4
               try clear hfz21_5
               try clear hfz26_0
               try clear hfz26_1
               try clear hfz26_2
               try clear hfz26_3
               try clear hfz26_4
               try clear hfz26_5
               try clear hfz28_0
               try clear hfz28_1
               try clear hfz28_2
               try clear hfz28_3
               try clear hfz28_4
               try clear hfz28_5
               try clear hfz30_0
               try clear hfz30_1
               try clear hfz30_2
               try clear hfz30_3
               try clear hfz30_4
               try clear hfz30_5
               try clear hfz31_0
               try clear hfz31_1
               try clear hfz31_2
               try clear hfz31_3
               try clear hfz31_4
               try clear hfz31_5
               try clear hfz35_0
               try clear hfz35_1
               try clear hfz35_2
               try clear hfz35_3
               try clear hfz35_4
               try clear hfz35_5
               try clear hfz37_0
               try clear hfz37_1
               try clear hfz37_2
               try clear hfz37_3
               try clear hfz37_4
               try clear hfz37_5
               try clear hfz39_0
               try clear hfz39_1
               try clear hfz39_2
               try clear hfz39_3
               try clear hfz39_4
               try clear hfz39_5
               try clear hfz6_0
               try clear hfz6_1
               try clear hfz6_2
               try clear hfz6_3
               try clear hfz6_4
               try clear hfz6_5
               try clear hfz7_0
               try clear hfz7_1
               try clear hfz7_2
               try clear hfz7_3
               try clear hfz7_4
               try clear hfz7_5
               try clear hfz8_0
               try clear hfz8_1
               try clear hfz8_2
               try clear hfz8_3
               try clear hfz8_4
               try clear hfz8_5
               try clear p2
               try clear p6
               obtain ⟨x4_5, rfl, HA, HK5, BK135, HB⟩ := hrel
               cases gk with
               | zero => exact absurd HA.out (by simp [spec_ImageFault.l1])
               | succ k5 =>
                have H := HA.out
                clear HA
                simp only [spec_ImageFault.l1] at H
                by_cases c41 : x4_5 < (l0_3.length : Int)
                ·rw [if_pos c41] at H
                 have c41b0 : decide (x4_5 < (l0_3.length : Int)) = true := decide_eq_true c41
                 clear c41
                 by_cases c42 : 0 ≤ x4_5
                 ·rw [if_pos c42] at H
                  have c42b0 : decide (0 ≤ x4_5) = true := decide_eq_true c42
                  clear c42
                  replace H := Option.bind_eq_some_iff.mp H
                  obtain ⟨t145, A430, H⟩ := H
                  replace H : (if t145 = true then (spec_ImageFault.l1 k5 (wrap64 (x4_5 + 1)) l0_0 l0_1 a0_2 l0_3 a0_4 l0_5) else (some 5)) = some r := H
                  have A43 := Aside0.mk A430
                  clear A430
                  by_cases c44 : t145 = true
                  ·subst c44
                   have H1 : (spec_ImageFault.l1 k5 (wrap64 (x4_5 + 1)) l0_0 l0_1 a0_2 l0_3 a0_4 l0_5) = some r := by rw [if_pos rfl] at H; exact H
                   clear H
                   have H := H1
                   clear H1
                   have H' := Aside0.mk H
                   clear H
                   have hcz45_0 : wr.cell? ⟨gb135, 0, none⟩ = some (.slice A0_0 l0_0.length c0_0) := (blk_cell BK135.out 0).trans rfl
                   have hcz45_1 : wr.cell? ⟨gb135, 1, none⟩ = some (.slice A0_1 l0_1.length c0_1) := (blk_cell BK135.out 1).trans rfl
                   have hcz45_2 : wr.cell? ⟨gb135, 2, none⟩ = some (.int .i64 a0_2) := (blk_cell BK135.out 2).trans rfl
                   have hcz45_3 : wr.cell? ⟨gb135, 3, none⟩ = some (.slice A0_3 l0_3.length c0_3) := (blk_cell BK135.out 3).trans rfl
                   have hcz45_4 : wr.cell? ⟨gb135, 4, none⟩ = some (.int .i64 a0_4) := (blk_cell BK135.out 4).trans rfl
                   have hcz45_5 : wr.cell? ⟨gb135, 5, none⟩ = some (.slice A0_5 l0_5.length c0_5) := (blk_cell BK135.out 5).trans rfl
                   have hfz45_0 := blk_frozen BK135.out 0
                   have hfz45_1 := blk_frozen BK135.out 1
                   have hfz45_2 := blk_frozen BK135.out 2
                   have hfz45_3 := blk_frozen BK135.out 3
                   have hfz45_4 := blk_frozen BK135.out 4
                   have hfz45_5 := blk_frozen BK135.out 5
                   have p144 : 0 ≤ (x4_5 : Int) := of_decide_eq_true (by first | (with_reducible assumption) | assumption)
                   have q144 : x4_5 < (l0_3.length : Int) := of_decide_eq_true (by first | (with_reducible assumption) | assumption)
                   obtain ⟨ad144, e144, hx144_0⟩ := Kd.at_int HR0_3.out x4_5 p144 q144
                   cases e144
                   replace hx144_0 := (HB.out.cell (World.block_lt_of_cell? w _ hx144_0)).trans hx144_0
                   replace p144 := eq_true p144
                   replace q144 := eq_true q144
                   go_wp2_with (first | ((with_reducible refine gate_callee (f := 23) rfl ?_); refine goesL_ (some 80) rfl rfl Try.func23 (by kernel_rfl) rfl #[.int .i64 (rd l0_3 x4_5)] rfl (by (try simp only [List.map_toArray, List.map_cons, List.map_nil]); first | done | rfl | (simp only [List.length_drop, List.length_take]; rfl)) ?_; (with_reducible refine (spec_ValidWidth.calls (rd l0_3 x4_5) true _ A43.out).mono ?_); rintro e w' ⟨rfl, ⟨nd, rfl⟩⟩; refine ⟨_, rfl, ?_⟩))
                   go_roundg k5
                   case measure => have := HJ1.out; have := HK2.out; have := HJ26.out; have := HJ32.out; have := HK5.out; omega
                   case rel => exact ⟨(wrap64 (x4_5 + 1)), (by first | rfl | (simp; done) | (simp [*]; done)), H', ⟨by have := HJ1.out; have := HK2.out; have := HJ26.out; have := HJ32.out; have := HK5.out; omega⟩, ⟨by (with_reducible repeat (first | refine blk_drewN ?_ _ | refine blk_drew ?_ | refine blk_alloc ?_ _)); exact BK135.out⟩, ⟨by repeat (first | (with_reducible first | exact HB.out | apply below_alloc | apply pw_below_drewN | apply below_drew1 | refine below_set ?_ GE135.out) | exact HB.out)⟩⟩
                  ·replace c44 := Bool.eq_false_iff.mpr c44
                   subst c44
                   have H1 : (some 5) = some r := by rw [if_neg (show ¬ (false = true) by decide)] at H; exact H
                   clear H
                   have H := H1
                   clear H1
                   obtain rfl := Option.some.inj H
                   have hcz46_0 : wr.cell? ⟨gb135, 0, none⟩ = some (.slice A0_0 l0_0.length c0_0) := (blk_cell BK135.out 0).trans rfl
                   have hcz46_1 : wr.cell? ⟨gb135, 1, none⟩ = some (.slice A0_1 l0_1.length c0_1) := (blk_cell BK135.out 1).trans rfl
                   have hcz46_2 : wr.cell? ⟨gb135, 2, none⟩ = some (.int .i64 a0_2) := (blk_cell BK135.out 2).trans rfl
                   have hcz46_3 : wr.cell? ⟨gb135, 3, none⟩ = some (.slice A0_3 l0_3.length c0_3) := (blk_cell BK135.out 3).trans rfl
                   have hcz46_4 : wr.cell? ⟨gb135, 4, none⟩ = some (.int .i64 a0_4) := (blk_cell BK135.out 4).trans rfl
                   have hcz46_5 : wr.cell? ⟨gb135, 5, none⟩ = some (.slice A0_5 l0_5.length c0_5) := (blk_cell BK135.out 5).trans rfl
                   have hfz46_0 := blk_frozen BK135.out 0
                   have hfz46_1 := blk_frozen BK135.out 1
                   have hfz46_2 := blk_frozen BK135.out 2
                   have hfz46_3 := blk_frozen BK135.out 3
                   have hfz46_4 := blk_frozen BK135.out 4
                   have hfz46_5 := blk_frozen BK135.out 5
                   have p144 : 0 ≤ (x4_5 : Int) := of_decide_eq_true (by first | (with_reducible assumption) | assumption)
                   have q144 : x4_5 < (l0_3.length : Int) := of_decide_eq_true (by first | (with_reducible assumption) | assumption)
                   obtain ⟨ad144, e144, hx144_0⟩ := Kd.at_int HR0_3.out x4_5 p144 q144
                   cases e144
                   replace hx144_0 := (HB.out.cell (World.block_lt_of_cell? w _ hx144_0)).trans hx144_0
                   replace p144 := eq_true p144
                   replace q144 := eq_true q144
                   go_wp2_with (first | ((with_reducible refine gate_callee (f := 23) rfl ?_); refine goesL_ (some 80) rfl rfl Try.func23 (by kernel_rfl) rfl #[.int .i64 (rd l0_3 x4_5)] rfl (by (try simp only [List.map_toArray, List.map_cons, List.map_nil]); first | done | rfl | (simp only [List.length_drop, List.length_take]; rfl)) ?_; (with_reducible refine (spec_ValidWidth.calls (rd l0_3 x4_5) false _ A43.out).mono ?_); rintro e w' ⟨rfl, ⟨nd, rfl⟩⟩; refine ⟨_, rfl, ?_⟩))
                   go_ret
                   exact ⟨by first | rfl | (simp [errW_none, errW_some] <;> rfl) | (simp [*, errW_none, errW_some] <;> rfl), by repeat (first | (with_reducible first | exact HB.out | apply below_alloc | apply pw_below_drewN | apply below_drew1 | refine below_set ?_ GE135.out) | exact HB.out)⟩
                 ·rw [if_neg c42] at H
                  exact absurd H (by simp)
                ·rw [if_neg c41] at H
                 have c41b0 : decide (x4_5 < (l0_3.length : Int)) = false := decide_eq_false c41
                 clear c41
                 obtain rfl := Option.some.inj H
                 have hcz47_0 : wr.cell? ⟨gb135, 0, none⟩ = some (.slice A0_0 l0_0.length c0_0) := (blk_cell BK135.out 0).trans rfl
                 have hcz47_1 : wr.cell? ⟨gb135, 1, none⟩ = some (.slice A0_1 l0_1.length c0_1) := (blk_cell BK135.out 1).trans rfl
                 have hcz47_2 : wr.cell? ⟨gb135, 2, none⟩ = some (.int .i64 a0_2) := (blk_cell BK135.out 2).trans rfl
                 have hcz47_3 : wr.cell? ⟨gb135, 3, none⟩ = some (.slice A0_3 l0_3.length c0_3) := (blk_cell BK135.out 3).trans rfl
                 have hcz47_4 : wr.cell? ⟨gb135, 4, none⟩ = some (.int .i64 a0_4) := (blk_cell BK135.out 4).trans rfl
                 have hcz47_5 : wr.cell? ⟨gb135, 5, none⟩ = some (.slice A0_5 l0_5.length c0_5) := (blk_cell BK135.out 5).trans rfl
                 have hfz47_0 := blk_frozen BK135.out 0
                 have hfz47_1 := blk_frozen BK135.out 1
                 have hfz47_2 := blk_frozen BK135.out 2
                 have hfz47_3 := blk_frozen BK135.out 3
                 have hfz47_4 := blk_frozen BK135.out 4
                 have hfz47_5 := blk_frozen BK135.out 5
                 go_wp2
                 go_ret
                 exact ⟨by first | rfl | (simp [errW_none, errW_some] <;> rfl) | (simp [*, errW_none, errW_some] <;> rfl), by repeat (first | (with_reducible first | exact HB.out | apply below_alloc | apply pw_below_drewN | apply below_drew1 | refine below_set ?_ GE135.out) | exact HB.out)⟩

end Go.Proofs.Ytnogjankhacdpaa.QFnExactImageFault
