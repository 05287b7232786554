-- written by mp.py, a program of this session, over the translation; Lean checks it
import Derived.Test.YtcjdgimiobhhnaaQFnExactGetVarx0
import Derived.Test.YtcjdgimiobhhnaaQFnExactGetVarx2
namespace Go.Proofs.Ytcjdgimiobhhnaa.QFnExactGetVar
open Go.RowKit Go.Proofs.YtcjdgimiobhhnaaW.PrintWords Go.Proofs.YtcjdgimiobhhnaaW.PrintLast Go.Proofs.YtcjdgimiobhhnaaW.PrintMore
attribute [local go_sem] max2_int min2_int max_two min_two max_three min_three max_four min_four   -- for this text's walks alone
set_option linter.unusedVariables false
set_option linter.unusedSimpArgs false

/-! ### spec_GetVar: function 17 -/
mutual
def spec_GetVar.j0 : Nat → Int → Int → Bool → List Int → Int → Option (Bool × Int × Int)
  | 0, _, _, _, _, _ => none
  | k + 1, x1, x2, x16, x126000, x126001 => if x16 = true then (some (false, 0, 0)) else (spec_GetVar.l0 k x1 x2 0 0 x126000 x126001)
def spec_GetVar.l0 : Nat → Int → Int → Int → Int → List Int → Int → Option (Bool × Int × Int)
  | 0, _, _, _, _, _, _ => none
  | k + 1, x1, x2, x7, x8, x126000, x126001 => (spec_GetBits.f k x126000 x126001 x1 (wrap64 (x2 - 1))).bind fun bt127 => ((spec_GetBits.f k x126000 x126001 (wrap64 ((wrap64 (x1 + x2)) - 1)) 1).bind fun bt131 => (if bt127.1 = true then (spec_GetVar.j2 k x2 x7 x8 (!bt131.1) x126000 x126001 bt127.1 bt127.2.1 bt127.2.2 bt131.1 bt131.2.1 bt131.2.2) else (spec_GetVar.j2 k x2 x7 x8 true x126000 x126001 bt127.1 bt127.2.1 bt127.2.2 bt131.1 bt131.2.1 bt131.2.2)))
def spec_GetVar.j2 : Nat → Int → Int → Int → Bool → List Int → Int → Bool → Int → Int → Bool → Int → Int → Option (Bool × Int × Int)
  | 0, _, _, _, _, _, _, _, _, _, _, _, _ => none
  | k + 1, x2, x7, x8, x40, x126000, x126001, x131000, x131001, x131002, x135000, x135001, x135002 => if x40 = true then (some (false, 0, 0)) else (if x131001 = 0 then (if x8 > 0 then (spec_GetVar.j3 k x135002 x2 x7 x8 (x135001 == 0) x126000 x126001 x131000 x131001 x131002 x135000 x135001 x135002) else (spec_GetVar.j3 k x135002 x2 x7 x8 false x126000 x126001 x131000 x131001 x131002 x135000 x135001 x135002)) else (if x8 ≥ 64 then (spec_GetVar.j3 k x135002 x2 x7 x8 true x126000 x126001 x131000 x131001 x131002 x135000 x135001 x135002) else (if 0 ≤ (IntKind.u64.wrap (x8)) then (if (shr .u64 (shl .u64 x131001 (IntKind.u64.wrap (x8))) (IntKind.u64.wrap (x8))) = x131001 then (if x8 > 0 then (spec_GetVar.j3 k x135002 x2 x7 x8 false x126000 x126001 x131000 x131001 x131002 x135000 x135001 x135002) else (spec_GetVar.j3 k x135002 x2 x7 x8 false x126000 x126001 x131000 x131001 x131002 x135000 x135001 x135002)) else (spec_GetVar.j3 k x135002 x2 x7 x8 true x126000 x126001 x131000 x131001 x131002 x135000 x135001 x135002)) else (none))))
def spec_GetVar.j3 : Nat → Int → Int → Int → Int → Bool → List Int → Int → Bool → Int → Int → Bool → Int → Int → Option (Bool × Int × Int)
  | 0, _, _, _, _, _, _, _, _, _, _, _, _, _ => none
  | k + 1, x1, x2, x7, x8, x77, x126000, x126001, x131000, x131001, x131002, x135000, x135001, x135002 => if x77 = true then (some (false, 0, 0)) else (if x8 < 64 then (if 0 ≤ (IntKind.u64.wrap (x8)) then (spec_GetVar.j4 k x1 x2 (Go.bits .or .u64 x7 (shl .u64 x131001 (IntKind.u64.wrap (x8)))) x8 x126000 x126001 x135000 x135001 x135002) else (none)) else (spec_GetVar.j4 k x1 x2 x7 x8 x126000 x126001 x135000 x135001 x135002))
def spec_GetVar.j4 : Nat → Int → Int → Int → Int → List Int → Int → Bool → Int → Int → Option (Bool × Int × Int)
  | 0, _, _, _, _, _, _, _, _, _ => none
  | k + 1, x1, x2, x7, x8, x126000, x126001, x135000, x135001, x135002 => if x135001 = 0 then (some (true, x7, x1)) else (if x8 ≥ 64 then (some (false, 0, 0)) else (spec_GetVar.l0 k x1 x2 x7 (wrap64 ((wrap64 (x8 + x2)) - 1)) x126000 x126001))
end
def spec_GetVar.f (k : Nat) (l0_0 : List Int) (a0_1 : Int) (a1 : Int) (a2 : Int) : Option (Bool × Int × Int) := if a2 < 2 then (spec_GetVar.j0 k a1 a2 true l0_0 a0_1) else (spec_GetVar.j0 k a1 a2 (decide (a2 > 32)) l0_0 a0_1)
theorem spec_GetVar.mono_l : ∀ k, (∀ y0 y1 y2 y3 y4, LeO (spec_GetVar.j0 k y0 y1 y2 y3 y4) (spec_GetVar.j0 (k + 1) y0 y1 y2 y3 y4)) ∧ (∀ y0 y1 y2 y3 y4 y5, LeO (spec_GetVar.l0 k y0 y1 y2 y3 y4 y5) (spec_GetVar.l0 (k + 1) y0 y1 y2 y3 y4 y5)) ∧ (∀ y0 y1 y2 y3 y4 y5 y6 y7 y8 y9 y10 y11, LeO (spec_GetVar.j2 k y0 y1 y2 y3 y4 y5 y6 y7 y8 y9 y10 y11) (spec_GetVar.j2 (k + 1) y0 y1 y2 y3 y4 y5 y6 y7 y8 y9 y10 y11)) ∧ (∀ y0 y1 y2 y3 y4 y5 y6 y7 y8 y9 y10 y11 y12, LeO (spec_GetVar.j3 k y0 y1 y2 y3 y4 y5 y6 y7 y8 y9 y10 y11 y12) (spec_GetVar.j3 (k + 1) y0 y1 y2 y3 y4 y5 y6 y7 y8 y9 y10 y11 y12)) ∧ (∀ y0 y1 y2 y3 y4 y5 y6 y7 y8, LeO (spec_GetVar.j4 k y0 y1 y2 y3 y4 y5 y6 y7 y8) (spec_GetVar.j4 (k + 1) y0 y1 y2 y3 y4 y5 y6 y7 y8))
  | 0 => ⟨fun _ _ _ _ _ r h => by simp [spec_GetVar.j0] at h, fun _ _ _ _ _ _ r h => by simp [spec_GetVar.l0] at h, fun _ _ _ _ _ _ _ _ _ _ _ _ r h => by simp [spec_GetVar.j2] at h, fun _ _ _ _ _ _ _ _ _ _ _ _ _ r h => by simp [spec_GetVar.j3] at h, fun _ _ _ _ _ _ _ _ _ r h => by simp [spec_GetVar.j4] at h⟩
  | k + 1 => by
    obtain ⟨ih0, ih1, ih2, ih3, ih4⟩ := spec_GetVar.mono_l k
    refine ⟨?_, ?_, ?_, ?_, ?_⟩
    · intro y0 y1 y2 y3 y4
      unfold spec_GetVar.j0
      repeat' first
      | (with_reducible exact ih0 _ _ _ _ _)
      | (with_reducible exact ih1 _ _ _ _ _ _)
      | (with_reducible exact ih2 _ _ _ _ _ _ _ _ _ _ _ _)
      | (with_reducible exact ih3 _ _ _ _ _ _ _ _ _ _ _ _ _)
      | (with_reducible exact ih4 _ _ _ _ _ _ _ _ _)
      | (with_reducible exact spec_GetBits.mono _ _ _ _ _)
      | (with_reducible exact LeO.refl _)
      | (with_reducible exact LeO.none _)
      | (with_reducible refine LeO.ite ?_ ?_)
      | (with_reducible refine LeO.bind ?_ (fun _ => ?_))
      | exact ih0 _ _ _ _ _
      | exact ih1 _ _ _ _ _ _
      | exact ih2 _ _ _ _ _ _ _ _ _ _ _ _
      | exact ih3 _ _ _ _ _ _ _ _ _ _ _ _ _
      | exact ih4 _ _ _ _ _ _ _ _ _
      | exact spec_GetBits.mono _ _ _ _ _
      | exact LeO.none _
      | refine LeO.ite ?_ ?_
      | refine LeO.bind ?_ (fun _ => ?_)
    · intro y0 y1 y2 y3 y4 y5
      unfold spec_GetVar.l0
      repeat' first
      | (with_reducible exact ih0 _ _ _ _ _)
      | (with_reducible exact ih1 _ _ _ _ _ _)
      | (with_reducible exact ih2 _ _ _ _ _ _ _ _ _ _ _ _)
      | (with_reducible exact ih3 _ _ _ _ _ _ _ _ _ _ _ _ _)
      | (with_reducible exact ih4 _ _ _ _ _ _ _ _ _)
      | (with_reducible exact spec_GetBits.mono _ _ _ _ _)
      | (with_reducible exact LeO.refl _)
      | (with_reducible exact LeO.none _)
      | (with_reducible refine LeO.ite ?_ ?_)
      | (with_reducible refine LeO.bind ?_ (fun _ => ?_))
      | exact ih0 _ _ _ _ _
      | exact ih1 _ _ _ _ _ _
      | exact ih2 _ _ _ _ _ _ _ _ _ _ _ _
      | exact ih3 _ _ _ _ _ _ _ _ _ _ _ _ _
      | exact ih4 _ _ _ _ _ _ _ _ _
      | exact spec_GetBits.mono _ _ _ _ _
      | exact LeO.none _
      | refine LeO.ite ?_ ?_
      | refine LeO.bind ?_ (fun _ => ?_)
    · intro y0 y1 y2 y3 y4 y5 y6 y7 y8 y9 y10 y11
      unfold spec_GetVar.j2
      repeat' first
      | (with_reducible exact ih0 _ _ _ _ _)
      | (with_reducible exact ih1 _ _ _ _ _ _)
      | (with_reducible exact ih2 _ _ _ _ _ _ _ _ _ _ _ _)
      | (with_reducible exact ih3 _ _ _ _ _ _ _ _ _ _ _ _ _)
      | (with_reducible exact ih4 _ _ _ _ _ _ _ _ _)
      | (with_reducible exact spec_GetBits.mono _ _ _ _ _)
      | (with_reducible exact LeO.refl _)
      | (with_reducible exact LeO.none _)
      | (with_reducible refine LeO.ite ?_ ?_)
      | (with_reducible refine LeO.bind ?_ (fun _ => ?_))
      | exact ih0 _ _ _ _ _
      | exact ih1 _ _ _ _ _ _
      | exact ih2 _ _ _ _ _ _ _ _ _ _ _ _
      | exact ih3 _ _ _ _ _ _ _ _ _ _ _ _ _
      | exact ih4 _ _ _ _ _ _ _ _ _
      | exact spec_GetBits.mono _ _ _ _ _
      | exact LeO.none _
      | refine LeO.ite ?_ ?_
      | refine LeO.bind ?_ (fun _ => ?_)
    · intro y0 y1 y2 y3 y4 y5 y6 y7 y8 y9 y10 y11 y12
      unfold spec_GetVar.j3
      repeat' first
      | (with_reducible exact ih0 _ _ _ _ _)
      | (with_reducible exact ih1 _ _ _ _ _ _)
      | (with_reducible exact ih2 _ _ _ _ _ _ _ _ _ _ _ _)
      | (with_reducible exact ih3 _ _ _ _ _ _ _ _ _ _ _ _ _)
      | (with_reducible exact ih4 _ _ _ _ _ _ _ _ _)
      | (with_reducible exact spec_GetBits.mono _ _ _ _ _)
      | (with_reducible exact LeO.refl _)
      | (with_reducible exact LeO.none _)
      | (with_reducible refine LeO.ite ?_ ?_)
      | (with_reducible refine LeO.bind ?_ (fun _ => ?_))
      | exact ih0 _ _ _ _ _
      | exact ih1 _ _ _ _ _ _
      | exact ih2 _ _ _ _ _ _ _ _ _ _ _ _
      | exact ih3 _ _ _ _ _ _ _ _ _ _ _ _ _
      | exact ih4 _ _ _ _ _ _ _ _ _
      | exact spec_GetBits.mono _ _ _ _ _
      | exact LeO.none _
      | refine LeO.ite ?_ ?_
      | refine LeO.bind ?_ (fun _ => ?_)
    · intro y0 y1 y2 y3 y4 y5 y6 y7 y8
      unfold spec_GetVar.j4
      repeat' first
      | (with_reducible exact ih0 _ _ _ _ _)
      | (with_reducible exact ih1 _ _ _ _ _ _)
      | (with_reducible exact ih2 _ _ _ _ _ _ _ _ _ _ _ _)
      | (with_reducible exact ih3 _ _ _ _ _ _ _ _ _ _ _ _ _)
      | (with_reducible exact ih4 _ _ _ _ _ _ _ _ _)
      | (with_reducible exact spec_GetBits.mono _ _ _ _ _)
      | (with_reducible exact LeO.refl _)
      | (with_reducible exact LeO.none _)
      | (with_reducible refine LeO.ite ?_ ?_)
      | (with_reducible refine LeO.bind ?_ (fun _ => ?_))
      | exact ih0 _ _ _ _ _
      | exact ih1 _ _ _ _ _ _
      | exact ih2 _ _ _ _ _ _ _ _ _ _ _ _
      | exact ih3 _ _ _ _ _ _ _ _ _ _ _ _ _
      | exact ih4 _ _ _ _ _ _ _ _ _
      | exact spec_GetBits.mono _ _ _ _ _
      | exact LeO.none _
      | refine LeO.ite ?_ ?_
      | refine LeO.bind ?_ (fun _ => ?_)
theorem spec_GetVar.mono : ∀ a0 a1 a2 a3 k, LeO (spec_GetVar.f k a0 a1 a2 a3) (spec_GetVar.f (k + 1) a0 a1 a2 a3) := by
  intro a0 a1 a2 a3 k
  obtain ⟨ih0, ih1, ih2, ih3, ih4⟩ := spec_GetVar.mono_l k
  unfold spec_GetVar.f
  repeat' first
      | (with_reducible exact ih0 _ _ _ _ _)
      | (with_reducible exact ih1 _ _ _ _ _ _)
      | (with_reducible exact ih2 _ _ _ _ _ _ _ _ _ _ _ _)
      | (with_reducible exact ih3 _ _ _ _ _ _ _ _ _ _ _ _ _)
      | (with_reducible exact ih4 _ _ _ _ _ _ _ _ _)
      | (with_reducible exact spec_GetBits.mono _ _ _ _ _)
      | (with_reducible exact LeO.refl _)
      | (with_reducible exact LeO.none _)
      | (with_reducible refine LeO.ite ?_ ?_)
      | (with_reducible refine LeO.bind ?_ (fun _ => ?_))
      | exact ih0 _ _ _ _ _
      | exact ih1 _ _ _ _ _ _
      | exact ih2 _ _ _ _ _ _ _ _ _ _ _ _
      | exact ih3 _ _ _ _ _ _ _ _ _ _ _ _ _
      | exact ih4 _ _ _ _ _ _ _ _ _
      | exact spec_GetBits.mono _ _ _ _ _
      | exact LeO.none _
      | refine LeO.ite ?_ ?_
      | refine LeO.bind ?_ (fun _ => ?_)
set_option maxHeartbeats 8000000 in
set_option maxRecDepth 100000 in
theorem spec_GetVar.calls (k : Nat) (A0_0 : Option Addr) (c0_0 : Nat) (l0_0 : List Int) (a0_1 : Int) (a1 : Int) (a2 : Int) (r1 : Bool) (r2 : Int) (r3 : Int) (w : World) (hr0_0 : Kd.C (Kd.int .u8) w A0_0 l0_0.length l0_0) (hc0_0 : l0_0.length ≤ c0_0) (h : spec_GetVar.f k l0_0 a0_1 a1 a2 = some (r1, r2, r3)) :
    Calls Try.prog 17 #[.agg #[.slice A0_0 l0_0.length c0_0, .int .i64 a0_1], .int .i64 a1, .int .i64 a2] w fun e w' => e = .returned (.agg #[.bool r1, .int .u64 r2, .int .i64 r3]) ∧ Below w.heap.size w w' := by
  have hu27 := Try.underlying27
  have hu34 := Try.underlying34
  have HR0_0 := Aside0.mk hr0_0
  have HC0_0 := Aside0.mk hc0_0
  clear hr0_0 hc0_0
  have HB := Aside0.mk (Below.refl w.heap.size w)
  have H : (if a2 < 2 then (spec_GetVar.j0 k a1 a2 true l0_0 a0_1) else (spec_GetVar.j0 k a1 a2 (decide (a2 > 32)) l0_0 a0_1)) = some (r1, r2, r3) := h
  clear h
  have HC4 := Aside0.mk H
  clear H
  go_enter Try.func17, Try.ntmps17
  go_upto_region 1 with (first | ((with_reducible refine gate_dst (N := 3) rfl ?_); refine box_event ?hg (N := 3) ?hd (cs := #[.slice A0_0 l0_0.length c0_0, .int .i64 a0_1]) (t := 27) ?hr ?_; (case hd => rfl); (case hg => rfl); (case hr => first | (go_simp; done) | (go_simp; rfl)); intro gb125 hg w5 hbox hb; have n0_ := Aside0.mk (below_step (by repeat (first | (with_reducible first | exact HB.out | apply below_alloc | apply pw_below_drewN | apply below_drew1) | exact HB.out)) hb); have n1_ := Aside0.mk (hbox); have n2_ := Aside0.mk ((by rw [hg]; exact (below_size (by repeat (first | (with_reducible first | exact HB.out | apply below_alloc | apply pw_below_drewN | apply below_drew1) | exact HB.out))) : w.heap.size ≤ gb125)); have n3_ := Aside0.mk ((by rw [hg]; exact (below_size (by repeat (first | (with_reducible first | exact HB.out | apply below_alloc | apply pw_below_drewN | apply below_drew1) | exact HB.out))) : w.heap.size ≤ gb125)); clear HB; have HB := n0_; have BK125 := n1_; have GW125 := n2_; have GE125 := n3_; clear n0_ n1_ n2_ n3_; clear hb hbox hg) | ((with_reducible refine gate_dst (N := 6) rfl ?_); refine box_event ?hg (N := 6) ?hd (cs := #[.bool false, .int .u64 0, .int .i64 0]) (t := 34) ?hr ?_; (case hd => rfl); (case hg => rfl); (case hr => first | (go_simp; done) | (go_simp; rfl)); intro gb126 hg w6 hbox hb; have n0_ := Aside0.mk (blk_below (g := gb125) (o := .cells #[.slice A0_0 l0_0.length c0_0, .int .i64 a0_1] 27 (0, 0)) (by (with_reducible repeat (first | refine blk_drewN ?_ _ | refine blk_drew ?_ | refine blk_alloc ?_ _)); exact BK125.out) hb); have n1_ := Aside0.mk (below_step (by repeat (first | (with_reducible first | exact HB.out | apply below_alloc | apply pw_below_drewN | apply below_drew1 | refine below_set ?_ GE125.out) | exact HB.out)) hb); have n2_ := Aside0.mk (hbox); have n3_ := Aside0.mk ((by rw [hg]; exact (below_size (by repeat (first | (with_reducible first | exact HB.out | apply below_alloc | apply pw_below_drewN | apply below_drew1 | refine below_set ?_ GE125.out) | exact HB.out))) : w.heap.size ≤ gb126)); have n4_ := Aside0.mk ((by rw [hg]; exact (below_size (by repeat (first | (with_reducible first | exact HB.out | apply below_alloc | apply pw_below_drewN | apply below_drew1 | refine below_set ?_ GE125.out) | exact HB.out))) : w.heap.size ≤ gb126)); have n5_ := Aside0.mk ((by rw [hg]; exact Nat.ne_of_lt (blk_lt (g := gb125) (o := .cells #[.slice A0_0 l0_0.length c0_0, .int .i64 a0_1] 27 (0, 0)) (by (with_reducible repeat (first | refine blk_drewN ?_ _ | refine blk_drew ?_ | refine blk_alloc ?_ _)); exact BK125.out)) : gb125 ≠ gb126)); have n6_ := Aside0.mk ((by rw [hg]; exact Nat.ne_of_gt (blk_lt (g := gb125) (o := .cells #[.slice A0_0 l0_0.length c0_0, .int .i64 a0_1] 27 (0, 0)) (by (with_reducible repeat (first | refine blk_drewN ?_ _ | refine blk_drew ?_ | refine blk_alloc ?_ _)); exact BK125.out)) : gb126 ≠ gb125)); clear BK125; clear HB; have BK125 := n0_; have HB := n1_; have BK126 := n2_; have GW126 := n3_; have GE126 := n4_; have NB125_126 := n5_; have NB126_125 := n6_; clear n0_ n1_ n2_ n3_ n4_ n5_ n6_; clear hb hbox hg))
  (try simp only [Act.put, List.setIfInBounds_toArray, List.set_cons_zero, List.set_cons_succ])
  go_cut [16] (fun v16 wc => ∃ (kq : Nat) (x16_3 : Bool), v16 = .bool x16_3 ∧ Aside0 (spec_GetVar.j0 kq a1 a2 x16_3 l0_0 a0_1 = some (r1, r2, r3)) ∧ Aside0 (kq ≤ k) ∧ Aside0 (wc.heap[gb125]? = some (.cells #[(.slice A0_0 l0_0.length c0_0), .int .i64 a0_1] 27 (0, 0))) ∧ Aside0 (wc.heap[gb126]? = some (.cells #[.bool false, .int .u64 0, .int .i64 0] 34 (0, 0))) ∧ Aside0 (Below w.heap.size w wc))
  case first =>
    have H := HC4.out
    clear HC4
    by_cases c7 : a2 < 2
    · rw [if_pos c7] at H
      have c7b0 : decide (a2 < 2) = true := decide_eq_true c7
      clear c7
      (first | rw [c7b0] | (simp only [i64_w, i32_w]; rw [c7b0]) | skip)
      have H' := Aside0.mk H
      clear H
      go_wp2
      go_meet
      case rel => exact ⟨_, (true), (by first | rfl | (simp; done) | (simp [*]; done)), H', ⟨by first | omega | exact Nat.le_refl _⟩, ⟨by (with_reducible repeat (first | refine blk_drewN ?_ _ | refine blk_drew ?_ | refine blk_alloc ?_ _)); exact BK125.out⟩, ⟨by (with_reducible repeat (first | refine blk_drewN ?_ _ | refine blk_drew ?_ | refine blk_alloc ?_ _)); exact BK126.out⟩, ⟨by repeat (first | (with_reducible first | exact HB.out | apply below_alloc | apply pw_below_drewN | apply below_drew1 | refine below_set ?_ GE125.out | refine below_set ?_ GE126.out) | exact HB.out)⟩⟩
    · rw [if_neg c7] at H
      have c7b0 : decide (a2 < 2) = false := decide_eq_false c7
      clear c7
      (first | rw [c7b0] | (simp only [i64_w, i32_w]; rw [c7b0]) | skip)
      have H' := Aside0.mk H
      clear H
      go_wp2
      go_meet
      case rel => exact ⟨_, (decide (a2 > 32)), (by first | rfl | (simp; done) | (simp [*]; done)), H', ⟨by first | omega | exact Nat.le_refl _⟩, ⟨by (with_reducible repeat (first | refine blk_drewN ?_ _ | refine blk_drew ?_ | refine blk_alloc ?_ _)); exact BK125.out⟩, ⟨by (with_reducible repeat (first | refine blk_drewN ?_ _ | refine blk_drew ?_ | refine blk_alloc ?_ _)); exact BK126.out⟩, ⟨by repeat (first | (with_reducible first | exact HB.out | apply below_alloc | apply pw_below_drewN | apply below_drew1 | refine below_set ?_ GE125.out | refine below_set ?_ GE126.out) | exact HB.out)⟩⟩
  case rest =>
    clear HC4
    try clear c1
    try clear p2
    try clear c7
    try clear c7b0
    obtain ⟨kq, x16_3, rfl, HA, HJ3, BK125, BK126, HB⟩ := hcut
    cases kq with
    | zero => exact absurd HA.out (by simp [spec_GetVar.j0])
    | succ kj3 =>
      have H := HA.out
      clear HA
      simp only [spec_GetVar.j0] at H
      by_cases c8 : x16_3 = true
      · subst c8
        have H1 : (some (false, 0, 0)) = some (r1, r2, r3) := by rw [if_pos rfl] at H; exact H
        clear H
        have H := H1
        clear H1
        simp only [Option.some.injEq, Prod.mk.injEq] at H
        obtain ⟨rfl, rfl, rfl⟩ := H
        have hnb9 := NB126_125.out
        have hnc9 := NB125_126.out
        have hcz10_0 : wc.cell? ⟨gb126, 0, none⟩ = some (.bool false) := (blk_cell BK126.out 0).trans rfl
        have hcz10_1 : wc.cell? ⟨gb126, 1, none⟩ = some (.int .u64 0) := (blk_cell BK126.out 1).trans rfl
        have hcz10_2 : wc.cell? ⟨gb126, 2, none⟩ = some (.int .i64 0) := (blk_cell BK126.out 2).trans rfl
        have hfz10_0 := blk_frozen BK126.out 0
        have hfz10_1 := blk_frozen BK126.out 1
        have hfz10_2 := blk_frozen BK126.out 2
        go_wp2
        refine bodyPost_ret (results_cell_row rfl _ _ gb126 34 #[.bool false, .int .u64 0, .int .i64 0] (0, 0) _ rfl (by (with_reducible repeat (first | refine blk_drewN ?_ _ | refine blk_drew ?_ | refine blk_alloc ?_ _)); refine blk_put (cs := #[.bool false, .int .u64 0, .int .i64 0]) ?_ 2 _ rfl; (with_reducible repeat (first | refine blk_drewN ?_ _ | refine blk_drew ?_ | refine blk_alloc ?_ _)); refine blk_put (cs := #[.bool false, .int .u64 0, .int .i64 0]) ?_ 1 _ rfl; (with_reducible repeat (first | refine blk_drewN ?_ _ | refine blk_drew ?_ | refine blk_alloc ?_ _)); refine blk_put (cs := #[.bool false, .int .u64 0, .int .i64 0]) ?_ 0 _ rfl; (with_reducible repeat (first | refine blk_drewN ?_ _ | refine blk_drew ?_ | refine blk_alloc ?_ _)); exact BK126.out) Try.underlying34 rfl (by kernel_rfl)) rfl ?_
        exact ⟨by first | rfl | (simp [errW_none, errW_some] <;> rfl) | (simp [*, errW_none, errW_some] <;> rfl), by repeat (first | (with_reducible first | exact HB.out | apply below_alloc | apply pw_below_drewN | apply below_drew1 | refine below_set ?_ GE125.out | refine below_set ?_ GE126.out) | exact HB.out)⟩
      · replace c8 := Bool.eq_false_iff.mpr c8
        subst c8
        have H1 : (spec_GetVar.l0 kj3 a1 a2 0 0 l0_0 a0_1) = some (r1, r2, r3) := by rw [if_neg (show ¬ (false = true) by decide)] at H; exact H
        clear H
        have H := H1
        clear H1
        have H' := Aside0.mk H
        clear H
        go_wp2
        go_loopg [1, 7, 8] kj3 (fun kq v1 v7 v8 w' => ∃ (x1_2 : Int) (x7_2 : Int) (x8_2 : Int) (x127000_2 : Bool) (x127001_2 : Int) (x127002_2 : Int), v1 = .int .i64 x1_2 ∧ v7 = .int .u64 x7_2 ∧ v8 = .int .i64 x8_2 ∧ Aside0 (spec_GetVar.l0 kq x1_2 a2 x7_2 x8_2 l0_0 a0_1 = some (r1, r2, r3)) ∧ Aside0 (kq ≤ kj3) ∧ Aside0 (w'.heap[gb125]? = some (.cells #[(.slice A0_0 l0_0.length c0_0), .int .i64 a0_1] 27 (0, 0))) ∧ Aside0 (w'.heap[gb126]? = some (.cells #[.bool x127000_2, .int .u64 x127001_2, .int .i64 x127002_2] 34 (0, 0))) ∧ Aside0 (Below w.heap.size w w'))
        case atStart => exact ⟨(a1), (0), (0), (false), (0), (0), (by first | rfl | (simp; done) | (simp [*]; done)), (by first | rfl | (simp; done) | (simp [*]; done)), (by first | rfl | (simp; done) | (simp [*]; done)), H', ⟨Nat.le_refl _⟩, ⟨by (with_reducible repeat (first | refine blk_drewN ?_ _ | refine blk_drew ?_ | refine blk_alloc ?_ _)); exact BK125.out⟩, ⟨by (with_reducible repeat (first | refine blk_drewN ?_ _ | refine blk_drew ?_ | refine blk_alloc ?_ _)); exact BK126.out⟩, ⟨by repeat (first | (with_reducible first | exact HB.out | apply below_alloc | apply pw_below_drewN | apply below_drew1 | refine below_set ?_ GE125.out | refine below_set ?_ GE126.out) | exact HB.out)⟩⟩
        case round =>
          clear H'
          try clear c1
          try clear p2
          try clear c7
          try clear c7b0
          try clear c8
          try clear c9
          try clear hcz10_0
          try clear hcz10_1
          try clear hcz10_2
          try clear hfz10_0
          try clear hfz10_1
          try clear hfz10_2
          try clear p2
          obtain ⟨x1_2, x7_2, x8_2, x127000_2, x127001_2, x127002_2, rfl, rfl, rfl, HA, HK2, BK125, BK126, HB⟩ := hrel
          cases gk with
          | zero => exact absurd HA.out (by simp [spec_GetVar.l0])
          | succ k2 =>
            have H := HA.out
            clear HA
            simp only [spec_GetVar.l0] at H
            replace H := Option.bind_eq_some_iff.mp H
            obtain ⟨⟨t127, t128, t129⟩, A110, H⟩ := H
            replace H : ((spec_GetBits.f k2 l0_0 a0_1 (wrap64 ((wrap64 (x1_2 + a2)) - 1)) 1).bind fun bt131 => (if t127 = true then (spec_GetVar.j2 k2 a2 x7_2 x8_2 (!bt131.1) l0_0 a0_1 t127 t128 t129 bt131.1 bt131.2.1 bt131.2.2) else (spec_GetVar.j2 k2 a2 x7_2 x8_2 true l0_0 a0_1 t127 t128 t129 bt131.1 bt131.2.1 bt131.2.2))) = some (r1, r2, r3) := H
            have A11 := Aside0.mk A110
            clear A110
            replace H := Option.bind_eq_some_iff.mp H
            obtain ⟨⟨t131, t132, t133⟩, A120, H⟩ := H
            replace H : (if t127 = true then (spec_GetVar.j2 k2 a2 x7_2 x8_2 (!t131) l0_0 a0_1 t127 t128 t129 t131 t132 t133) else (spec_GetVar.j2 k2 a2 x7_2 x8_2 true l0_0 a0_1 t127 t128 t129 t131 t132 t133)) = some (r1, r2, r3) := H
            have A12 := Aside0.mk A120
            clear A120
            have HC13 := Aside0.mk H
            clear H
            have hnb14 := NB125_126.out
            have hnc14 := NB126_125.out
            have hcz15_0 : wr.cell? ⟨gb125, 0, none⟩ = some (.slice A0_0 l0_0.length c0_0) := (blk_cell BK125.out 0).trans rfl
            have hcz15_1 : wr.cell? ⟨gb125, 1, none⟩ = some (.int .i64 a0_1) := (blk_cell BK125.out 1).trans rfl
            have hfz15_0 := blk_frozen BK125.out 0
            have hfz15_1 := blk_frozen BK125.out 1
            go_upto_region 8 with (first | ((with_reducible refine gate_callee (f := 48) rfl ?_); refine goesL_ (some 26) rfl rfl Try.func48 (by kernel_rfl) rfl #[.agg #[.slice A0_0 l0_0.length c0_0, .int .i64 a0_1], .int .i64 x1_2, .int .i64 (wrap64 (a2 - 1))] rfl (by (try simp only [List.map_toArray, List.map_cons, List.map_nil]); first | done | rfl | (simp only [List.length_drop, List.length_take]; rfl)) ?_; (with_reducible refine (spec_GetBits.calls k2 _ _ l0_0 a0_1 x1_2 (wrap64 (a2 - 1)) t127 t128 t129 _ ?side1 ?side2 A11.out).mono ?_); (case side1 => repeat (first | exact (Kd.C_below HR0_0.out HB.out) | (with_reducible refine Kd.C_alloc ?_ _) | (with_reducible refine Kd.C_drewN ?_ _) | (with_reducible refine Kd.C_drew ?_))); (case side2 => exact HC0_0.out); rintro e w16 ⟨rfl, hb⟩; refine ⟨_, rfl, ?_⟩; have n0_ := Aside0.mk (blk_below (g := gb125) (o := .cells #[.slice A0_0 l0_0.length c0_0, .int .i64 a0_1] 27 (0, 0)) (by (with_reducible repeat (first | refine blk_drewN ?_ _ | refine blk_drew ?_ | refine blk_alloc ?_ _)); exact BK125.out) hb); have n1_ := Aside0.mk (blk_below (g := gb126) (o := .cells #[.bool x127000_2, .int .u64 x127001_2, .int .i64 x127002_2] 34 (0, 0)) (by (with_reducible repeat (first | refine blk_drewN ?_ _ | refine blk_drew ?_ | refine blk_alloc ?_ _)); exact BK126.out) hb); have n2_ := Aside0.mk (below_step (by repeat (first | (with_reducible first | exact HB.out | apply below_alloc | apply pw_below_drewN | apply below_drew1 | refine below_set ?_ GE125.out | refine below_set ?_ GE126.out) | exact HB.out)) hb); clear BK125; clear BK126; clear HB; have BK125 := n0_; have BK126 := n1_; have HB := n2_; clear n0_ n1_ n2_; (try clear hb); (try clear hb2); (try clear hk); (try clear hi)) | ((with_reducible refine gate_dst (N := 9) rfl ?_); refine box_event ?hg (N := 9) ?hd (cs := #[.bool false, .int .u64 0, .int .i64 0]) (t := 34) ?hr ?_; (case hd => rfl); (case hg => rfl); (case hr => first | (go_simp; done) | (go_simp; rfl)); intro gb130 hg w17 hbox hb; have n0_ := Aside0.mk (blk_below (g := gb125) (o := .cells #[.slice A0_0 l0_0.length c0_0, .int .i64 a0_1] 27 (0, 0)) (by (with_reducible repeat (first | refine blk_drewN ?_ _ | refine blk_drew ?_ | refine blk_alloc ?_ _)); exact BK125.out) hb); have n1_ := Aside0.mk (blk_below (g := gb126) (o := .cells #[.bool x127000_2, .int .u64 x127001_2, .int .i64 x127002_2] 34 (0, 0)) (by (with_reducible repeat (first | refine blk_drewN ?_ _ | refine blk_drew ?_ | refine blk_alloc ?_ _)); exact BK126.out) hb); have n2_ := Aside0.mk (below_step (by repeat (first | (with_reducible first | exact HB.out | apply below_alloc | apply pw_below_drewN | apply below_drew1 | refine below_set ?_ GE125.out | refine below_set ?_ GE126.out) | exact HB.out)) hb); have n3_ := Aside0.mk (hbox); have n4_ := Aside0.mk ((by rw [hg]; exact (below_size (by repeat (first | (with_reducible first | exact HB.out | apply below_alloc | apply pw_below_drewN | apply below_drew1 | refine below_set ?_ GE125.out | refine below_set ?_ GE126.out) | exact HB.out))) : w.heap.size ≤ gb130)); have n5_ := Aside0.mk ((by rw [hg]; exact (below_size (by repeat (first | (with_reducible first | exact HB.out | apply below_alloc | apply pw_below_drewN | apply below_drew1 | refine below_set ?_ GE125.out | refine below_set ?_ GE126.out) | exact HB.out))) : w.heap.size ≤ gb130)); have n6_ := Aside0.mk ((by rw [hg]; exact Nat.ne_of_lt (blk_lt (g := gb125) (o := .cells #[.slice A0_0 l0_0.length c0_0, .int .i64 a0_1] 27 (0, 0)) (by (with_reducible repeat (first | refine blk_drewN ?_ _ | refine blk_drew ?_ | refine blk_alloc ?_ _)); exact BK125.out)) : gb125 ≠ gb130)); have n7_ := Aside0.mk ((by rw [hg]; exact Nat.ne_of_gt (blk_lt (g := gb125) (o := .cells #[.slice A0_0 l0_0.length c0_0, .int .i64 a0_1] 27 (0, 0)) (by (with_reducible repeat (first | refine blk_drewN ?_ _ | refine blk_drew ?_ | refine blk_alloc ?_ _)); exact BK125.out)) : gb130 ≠ gb125)); have n8_ := Aside0.mk ((by rw [hg]; exact Nat.ne_of_lt (blk_lt (g := gb126) (o := .cells #[.bool x127000_2, .int .u64 x127001_2, .int .i64 x127002_2] 34 (0, 0)) (by (with_reducible repeat (first | refine blk_drewN ?_ _ | refine blk_drew ?_ | refine blk_alloc ?_ _)); exact BK126.out)) : gb126 ≠ gb130)); have n9_ := Aside0.mk ((by rw [hg]; exact Nat.ne_of_gt (blk_lt (g := gb126) (o := .cells #[.bool x127000_2, .int .u64 x127001_2, .int .i64 x127002_2] 34 (0, 0)) (by (with_reducible repeat (first | refine blk_drewN ?_ _ | refine blk_drew ?_ | refine blk_alloc ?_ _)); exact BK126.out)) : gb130 ≠ gb126)); clear BK125; clear BK126; clear HB; have BK125 := n0_; have BK126 := n1_; have HB := n2_; have BK130 := n3_; have GW130 := n4_; have GE130 := n5_; have NB125_130 := n6_; have NB130_125 := n7_; have NB126_130 := n8_; have NB130_126 := n9_; clear n0_ n1_ n2_ n3_ n4_ n5_ n6_ n7_ n8_ n9_; clear hb hbox hg; have hnb18 := NB130_125.out; have hnc18 := NB125_130.out; have hnb19 := NB130_126.out; have hnc19 := NB126_130.out; have hcz20_0 : w17.cell? ⟨gb130, 0, none⟩ = some (.bool false) := (blk_cell BK130.out 0).trans rfl; have hcz20_1 : w17.cell? ⟨gb130, 1, none⟩ = some (.int .u64 0) := (blk_cell BK130.out 1).trans rfl; have hcz20_2 : w17.cell? ⟨gb130, 2, none⟩ = some (.int .i64 0) := (blk_cell BK130.out 2).trans rfl; have hfz20_0 := blk_frozen BK130.out 0; have hfz20_1 := blk_frozen BK130.out 1; have hfz20_2 := blk_frozen BK130.out 2; have hcz21_0 : w17.cell? ⟨gb125, 0, none⟩ = some (.slice A0_0 l0_0.length c0_0) := (blk_cell BK125.out 0).trans rfl; have hcz21_1 : w17.cell? ⟨gb125, 1, none⟩ = some (.int .i64 a0_1) := (blk_cell BK125.out 1).trans rfl; have hfz21_0 := blk_frozen BK125.out 0; have hfz21_1 := blk_frozen BK125.out 1) | ((with_reducible refine gate_callee (f := 48) rfl ?_); refine goesL_ (some 32) rfl rfl Try.func48 (by kernel_rfl) rfl #[.agg #[.slice A0_0 l0_0.length c0_0, .int .i64 a0_1], .int .i64 (wrap64 ((wrap64 (x1_2 + a2)) - 1)), .int .i64 1] rfl (by (try simp only [List.map_toArray, List.map_cons, List.map_nil]); first | done | rfl | (simp only [List.length_drop, List.length_take]; rfl)) ?_; (with_reducible refine (spec_GetBits.calls k2 _ _ l0_0 a0_1 (wrap64 ((wrap64 (x1_2 + a2)) - 1)) 1 t131 t132 t133 _ ?side1 ?side2 A12.out).mono ?_); (case side1 => exact Kd.C_below HR0_0.out (by repeat (first | (with_reducible first | exact HB.out | apply below_alloc | apply pw_below_drewN | apply below_drew1 | refine below_set ?_ GE125.out | refine below_set ?_ GE126.out | refine below_set ?_ GE130.out) | exact HB.out))); (case side2 => exact HC0_0.out); rintro e w22 ⟨rfl, hb⟩; refine ⟨_, rfl, ?_⟩; have n0_ := Aside0.mk (blk_below (g := gb125) (o := .cells #[.slice A0_0 l0_0.length c0_0, .int .i64 a0_1] 27 (0, 0)) (by (with_reducible repeat (first | refine blk_drewN ?_ _ | refine blk_drew ?_ | refine blk_alloc ?_ _)); refine blk_far ?_ NB125_130.out _; (with_reducible repeat (first | refine blk_drewN ?_ _ | refine blk_drew ?_ | refine blk_alloc ?_ _)); refine blk_far ?_ NB125_130.out _; (with_reducible repeat (first | refine blk_drewN ?_ _ | refine blk_drew ?_ | refine blk_alloc ?_ _)); refine blk_far ?_ NB125_130.out _; (with_reducible repeat (first | refine blk_drewN ?_ _ | refine blk_drew ?_ | refine blk_alloc ?_ _)); exact BK125.out) hb); have n1_ := Aside0.mk (blk_below (g := gb126) (o := .cells #[.bool x127000_2, .int .u64 x127001_2, .int .i64 x127002_2] 34 (0, 0)) (by (with_reducible repeat (first | refine blk_drewN ?_ _ | refine blk_drew ?_ | refine blk_alloc ?_ _)); refine blk_far ?_ NB126_130.out _; (with_reducible repeat (first | refine blk_drewN ?_ _ | refine blk_drew ?_ | refine blk_alloc ?_ _)); refine blk_far ?_ NB126_130.out _; (with_reducible repeat (first | refine blk_drewN ?_ _ | refine blk_drew ?_ | refine blk_alloc ?_ _)); refine blk_far ?_ NB126_130.out _; (with_reducible repeat (first | refine blk_drewN ?_ _ | refine blk_drew ?_ | refine blk_alloc ?_ _)); exact BK126.out) hb); have n2_ := Aside0.mk (blk_below (g := gb130) (o := .cells #[.bool t127, .int .u64 t128, .int .i64 t129] 34 (0, 0)) (by (with_reducible repeat (first | refine blk_drewN ?_ _ | refine blk_drew ?_ | refine blk_alloc ?_ _)); refine blk_put (cs := #[.bool t127, .int .u64 t128, .int .i64 0]) ?_ 2 _ rfl; (with_reducible repeat (first | refine blk_drewN ?_ _ | refine blk_drew ?_ | refine blk_alloc ?_ _)); refine blk_put (cs := #[.bool t127, .int .u64 0, .int .i64 0]) ?_ 1 _ rfl; (with_reducible repeat (first | refine blk_drewN ?_ _ | refine blk_drew ?_ | refine blk_alloc ?_ _)); refine blk_put (cs := #[.bool false, .int .u64 0, .int .i64 0]) ?_ 0 _ rfl; (with_reducible repeat (first | refine blk_drewN ?_ _ | refine blk_drew ?_ | refine blk_alloc ?_ _)); exact BK130.out) hb); have n3_ := Aside0.mk (below_step (by repeat (first | (with_reducible first | exact HB.out | apply below_alloc | apply pw_below_drewN | apply below_drew1 | refine below_set ?_ GE125.out | refine below_set ?_ GE126.out | refine below_set ?_ GE130.out) | exact HB.out)) hb); clear BK125; clear BK126; clear BK130; clear HB; have BK125 := n0_; have BK126 := n1_; have BK130 := n2_; have HB := n3_; clear n0_ n1_ n2_ n3_; (try clear hb); (try clear hb2); (try clear hk); (try clear hi)) | ((with_reducible refine gate_dst (N := 10) rfl ?_); refine box_event ?hg (N := 10) ?hd (cs := #[.bool false, .int .u64 0, .int .i64 0]) (t := 34) ?hr ?_; (case hd => rfl); (case hg => rfl); (case hr => first | (go_simp; done) | (go_simp; rfl)); intro gb134 hg w23 hbox hb; have n0_ := Aside0.mk (blk_below (g := gb125) (o := .cells #[.slice A0_0 l0_0.length c0_0, .int .i64 a0_1] 27 (0, 0)) (by (with_reducible repeat (first | refine blk_drewN ?_ _ | refine blk_drew ?_ | refine blk_alloc ?_ _)); exact BK125.out) hb); have n1_ := Aside0.mk (blk_below (g := gb126) (o := .cells #[.bool x127000_2, .int .u64 x127001_2, .int .i64 x127002_2] 34 (0, 0)) (by (with_reducible repeat (first | refine blk_drewN ?_ _ | refine blk_drew ?_ | refine blk_alloc ?_ _)); exact BK126.out) hb); have n2_ := Aside0.mk (blk_below (g := gb130) (o := .cells #[.bool t127, .int .u64 t128, .int .i64 t129] 34 (0, 0)) (by (with_reducible repeat (first | refine blk_drewN ?_ _ | refine blk_drew ?_ | refine blk_alloc ?_ _)); exact BK130.out) hb); have n3_ := Aside0.mk (below_step (by repeat (first | (with_reducible first | exact HB.out | apply below_alloc | apply pw_below_drewN | apply below_drew1 | refine below_set ?_ GE125.out | refine below_set ?_ GE126.out | refine below_set ?_ GE130.out) | exact HB.out)) hb); have n4_ := Aside0.mk (hbox); have n5_ := Aside0.mk ((by rw [hg]; exact (below_size (by repeat (first | (with_reducible first | exact HB.out | apply below_alloc | apply pw_below_drewN | apply below_drew1 | refine below_set ?_ GE125.out | refine below_set ?_ GE126.out | refine below_set ?_ GE130.out) | exact HB.out))) : w.heap.size ≤ gb134)); have n6_ := Aside0.mk ((by rw [hg]; exact (below_size (by repeat (first | (with_reducible first | exact HB.out | apply below_alloc | apply pw_below_drewN | apply below_drew1 | refine below_set ?_ GE125.out | refine below_set ?_ GE126.out | refine below_set ?_ GE130.out) | exact HB.out))) : w.heap.size ≤ gb134)); have n7_ := Aside0.mk ((by rw [hg]; exact Nat.ne_of_lt (blk_lt (g := gb125) (o := .cells #[.slice A0_0 l0_0.length c0_0, .int .i64 a0_1] 27 (0, 0)) (by (with_reducible repeat (first | refine blk_drewN ?_ _ | refine blk_drew ?_ | refine blk_alloc ?_ _)); exact BK125.out)) : gb125 ≠ gb134)); have n8_ := Aside0.mk ((by rw [hg]; exact Nat.ne_of_gt (blk_lt (g := gb125) (o := .cells #[.slice A0_0 l0_0.length c0_0, .int .i64 a0_1] 27 (0, 0)) (by (with_reducible repeat (first | refine blk_drewN ?_ _ | refine blk_drew ?_ | refine blk_alloc ?_ _)); exact BK125.out)) : gb134 ≠ gb125)); have n9_ := Aside0.mk ((by rw [hg]; exact Nat.ne_of_lt (blk_lt (g := gb126) (o := .cells #[.bool x127000_2, .int .u64 x127001_2, .int .i64 x127002_2] 34 (0, 0)) (by (with_reducible repeat (first | refine blk_drewN ?_ _ | refine blk_drew ?_ | refine blk_alloc ?_ _)); exact BK126.out)) : gb126 ≠ gb134)); have n10_ := Aside0.mk ((by rw [hg]; exact Nat.ne_of_gt (blk_lt (g := gb126) (o := .cells #[.bool x127000_2, .int .u64 x127001_2, .int .i64 x127002_2] 34 (0, 0)) (by (with_reducible repeat (first | refine blk_drewN ?_ _ | refine blk_drew ?_ | refine blk_alloc ?_ _)); exact BK126.out)) : gb134 ≠ gb126)); have n11_ := Aside0.mk ((by rw [hg]; exact Nat.ne_of_lt (blk_lt (g := gb130) (o := .cells #[.bool t127, .int .u64 t128, .int .i64 t129] 34 (0, 0)) (by (with_reducible repeat (first | refine blk_drewN ?_ _ | refine blk_drew ?_ | refine blk_alloc ?_ _)); exact BK130.out)) : gb130 ≠ gb134)); have n12_ := Aside0.mk ((by rw [hg]; exact Nat.ne_of_gt (blk_lt (g := gb130) (o := .cells #[.bool t127, .int .u64 t128, .int .i64 t129] 34 (0, 0)) (by (with_reducible repeat (first | refine blk_drewN ?_ _ | refine blk_drew ?_ | refine blk_alloc ?_ _)); exact BK130.out)) : gb134 ≠ gb130)); clear BK125; clear BK126; clear BK130; clear HB; have BK125 := n0_; have BK126 := n1_; have BK130 := n2_; have HB := n3_; have BK134 := n4_; have GW134 := n5_; have GE134 := n6_; have NB125_134 := n7_; have NB134_125 := n8_; have NB126_134 := n9_; have NB134_126 := n10_; have NB130_134 := n11_; have NB134_130 := n12_; clear n0_ n1_ n2_ n3_ n4_ n5_ n6_ n7_ n8_ n9_ n10_ n11_ n12_; clear hb hbox hg; have hnb24 := NB134_125.out; have hnc24 := NB125_134.out; have hnb25 := NB134_126.out; have hnc25 := NB126_134.out; have hnb26 := NB134_130.out; have hnc26 := NB130_134.out; have hcz27_0 : w23.cell? ⟨gb134, 0, none⟩ = some (.bool false) := (blk_cell BK134.out 0).trans rfl; have hcz27_1 : w23.cell? ⟨gb134, 1, none⟩ = some (.int .u64 0) := (blk_cell BK134.out 1).trans rfl; have hcz27_2 : w23.cell? ⟨gb134, 2, none⟩ = some (.int .i64 0) := (blk_cell BK134.out 2).trans rfl; have hfz27_0 := blk_frozen BK134.out 0; have hfz27_1 := blk_frozen BK134.out 1; have hfz27_2 := blk_frozen BK134.out 2))
            (try simp only [Act.put, List.setIfInBounds_toArray, List.set_cons_zero, List.set_cons_succ])
            go_cut [40] (fun v40 wc => ∃ (kq : Nat) (x40_12 : Bool), v40 = .bool x40_12 ∧ Aside0 (spec_GetVar.j2 kq a2 x7_2 x8_2 x40_12 l0_0 a0_1 t127 t128 t129 t131 t132 t133 = some (r1, r2, r3)) ∧ Aside0 (kq ≤ k2) ∧ Aside0 (wc.heap[gb125]? = some (.cells #[(.slice A0_0 l0_0.length c0_0), .int .i64 a0_1] 27 (0, 0))) ∧ Aside0 (wc.heap[gb126]? = some (.cells #[.bool x127000_2, .int .u64 x127001_2, .int .i64 x127002_2] 34 (0, 0))) ∧ Aside0 (wc.heap[gb130]? = some (.cells #[.bool t127, .int .u64 t128, .int .i64 t129] 34 (0, 0))) ∧ Aside0 (wc.heap[gb134]? = some (.cells #[.bool t131, .int .u64 t132, .int .i64 t133] 34 (0, 0))) ∧ Aside0 (Below w.heap.size w wc))
            case first =>
              have H := HC13.out
              clear HC13
              by_cases c28 : t127 = true
              · subst c28
                have H1 : (spec_GetVar.j2 k2 a2 x7_2 x8_2 (!t131) l0_0 a0_1 true t128 t129 t131 t132 t133) = some (r1, r2, r3) := by rw [if_pos rfl] at H; exact H
                clear H
                have H := H1
                clear H1
                have H' := Aside0.mk H
                clear H
                have hnb29 := NB130_125.out
                have hnc29 := NB125_130.out
                have hnb30 := NB130_126.out
                have hnc30 := NB126_130.out
                have hnb31 := NB130_134.out
                have hnc31 := NB134_130.out
                have hcz32_0 : w23.cell? ⟨gb130, 0, none⟩ = some (.bool true) := (blk_cell BK130.out 0).trans rfl
                have hcz32_1 : w23.cell? ⟨gb130, 1, none⟩ = some (.int .u64 t128) := (blk_cell BK130.out 1).trans rfl
                have hcz32_2 : w23.cell? ⟨gb130, 2, none⟩ = some (.int .i64 t129) := (blk_cell BK130.out 2).trans rfl
                have hfz32_0 := blk_frozen BK130.out 0
                have hfz32_1 := blk_frozen BK130.out 1
                have hfz32_2 := blk_frozen BK130.out 2
                have hnb33 := NB134_125.out
                have hnc33 := NB125_134.out
                have hnb34 := NB134_126.out
                have hnc34 := NB126_134.out
                have hcz35_0 : w23.cell? ⟨gb134, 0, none⟩ = some (.bool false) := (blk_cell BK134.out 0).trans rfl
                have hcz35_1 : w23.cell? ⟨gb134, 1, none⟩ = some (.int .u64 0) := (blk_cell BK134.out 1).trans rfl
                have hcz35_2 : w23.cell? ⟨gb134, 2, none⟩ = some (.int .i64 0) := (blk_cell BK134.out 2).trans rfl
                have hfz35_0 := blk_frozen BK134.out 0
                have hfz35_1 := blk_frozen BK134.out 1
                have hfz35_2 := blk_frozen BK134.out 2
                go_wp2
                go_meet
                case rel => exact ⟨_, (!t131), (by first | rfl | (simp; done) | (simp [*]; done)), H', ⟨by have := HJ3.out; have := HK2.out; first | omega | exact Nat.le_refl _⟩, ⟨by (with_reducible repeat (first | refine blk_drewN ?_ _ | refine blk_drew ?_ | refine blk_alloc ?_ _)); refine blk_far ?_ NB125_134.out _; (with_reducible repeat (first | refine blk_drewN ?_ _ | refine blk_drew ?_ | refine blk_alloc ?_ _)); refine blk_far ?_ NB125_134.out _; (with_reducible repeat (first | refine blk_drewN ?_ _ | refine blk_drew ?_ | refine blk_alloc ?_ _)); refine blk_far ?_ NB125_134.out _; (with_reducible repeat (first | refine blk_drewN ?_ _ | refine blk_drew ?_ | refine blk_alloc ?_ _)); exact BK125.out⟩, ⟨by (with_reducible repeat (first | refine blk_drewN ?_ _ | refine blk_drew ?_ | refine blk_alloc ?_ _)); refine blk_far ?_ NB126_134.out _; (with_reducible repeat (first | refine blk_drewN ?_ _ | refine blk_drew ?_ | refine blk_alloc ?_ _)); refine blk_far ?_ NB126_134.out _; (with_reducible repeat (first | refine blk_drewN ?_ _ | refine blk_drew ?_ | refine blk_alloc ?_ _)); refine blk_far ?_ NB126_134.out _; (with_reducible repeat (first | refine blk_drewN ?_ _ | refine blk_drew ?_ | refine blk_alloc ?_ _)); exact BK126.out⟩, ⟨by (with_reducible repeat (first | refine blk_drewN ?_ _ | refine blk_drew ?_ | refine blk_alloc ?_ _)); refine blk_far ?_ NB130_134.out _; (with_reducible repeat (first | refine blk_drewN ?_ _ | refine blk_drew ?_ | refine blk_alloc ?_ _)); refine blk_far ?_ NB130_134.out _; (with_reducible repeat (first | refine blk_drewN ?_ _ | refine blk_drew ?_ | refine blk_alloc ?_ _)); refine blk_far ?_ NB130_134.out _; (with_reducible repeat (first | refine blk_drewN ?_ _ | refine blk_drew ?_ | refine blk_alloc ?_ _)); exact BK130.out⟩, ⟨by (with_reducible repeat (first | refine blk_drewN ?_ _ | refine blk_drew ?_ | refine blk_alloc ?_ _)); refine blk_put (cs := #[.bool t131, .int .u64 t132, .int .i64 0]) ?_ 2 _ rfl; (with_reducible repeat (first | refine blk_drewN ?_ _ | refine blk_drew ?_ | refine blk_alloc ?_ _)); refine blk_put (cs := #[.bool t131, .int .u64 0, .int .i64 0]) ?_ 1 _ rfl; (with_reducible repeat (first | refine blk_drewN ?_ _ | refine blk_drew ?_ | refine blk_alloc ?_ _)); refine blk_put (cs := #[.bool false, .int .u64 0, .int .i64 0]) ?_ 0 _ rfl; (with_reducible repeat (first | refine blk_drewN ?_ _ | refine blk_drew ?_ | refine blk_alloc ?_ _)); exact BK134.out⟩, ⟨by repeat (first | (with_reducible first | exact HB.out | apply below_alloc | apply pw_below_drewN | apply below_drew1 | refine below_set ?_ GE125.out | refine below_set ?_ GE126.out | refine below_set ?_ GE130.out | refine below_set ?_ GE134.out) | exact HB.out)⟩⟩
              · replace c28 := Bool.eq_false_iff.mpr c28
                subst c28
                have H1 : (spec_GetVar.j2 k2 a2 x7_2 x8_2 true l0_0 a0_1 false t128 t129 t131 t132 t133) = some (r1, r2, r3) := by rw [if_neg (show ¬ (false = true) by decide)] at H; exact H
                clear H
                have H := H1
                clear H1
                have H' := Aside0.mk H
                clear H
                have hnb36 := NB130_125.out
                have hnc36 := NB125_130.out
                have hnb37 := NB130_126.out
                have hnc37 := NB126_130.out
                have hnb38 := NB130_134.out
                have hnc38 := NB134_130.out
                have hcz39_0 : w23.cell? ⟨gb130, 0, none⟩ = some (.bool false) := (blk_cell BK130.out 0).trans rfl
                have hcz39_1 : w23.cell? ⟨gb130, 1, none⟩ = some (.int .u64 t128) := (blk_cell BK130.out 1).trans rfl
                have hcz39_2 : w23.cell? ⟨gb130, 2, none⟩ = some (.int .i64 t129) := (blk_cell BK130.out 2).trans rfl
                have hfz39_0 := blk_frozen BK130.out 0
                have hfz39_1 := blk_frozen BK130.out 1
                have hfz39_2 := blk_frozen BK130.out 2
                go_wp2
                go_meet
                case rel => exact ⟨_, (true), (by first | rfl | (simp; done) | (simp [*]; done)), H', ⟨by have := HJ3.out; have := HK2.out; first | omega | exact Nat.le_refl _⟩, ⟨by (with_reducible repeat (first | refine blk_drewN ?_ _ | refine blk_drew ?_ | refine blk_alloc ?_ _)); refine blk_far ?_ NB125_134.out _; (with_reducible repeat (first | refine blk_drewN ?_ _ | refine blk_drew ?_ | refine blk_alloc ?_ _)); refine blk_far ?_ NB125_134.out _; (with_reducible repeat (first | refine blk_drewN ?_ _ | refine blk_drew ?_ | refine blk_alloc ?_ _)); refine blk_far ?_ NB125_134.out _; (with_reducible repeat (first | refine blk_drewN ?_ _ | refine blk_drew ?_ | refine blk_alloc ?_ _)); exact BK125.out⟩, ⟨by (with_reducible repeat (first | refine blk_drewN ?_ _ | refine blk_drew ?_ | refine blk_alloc ?_ _)); refine blk_far ?_ NB126_134.out _; (with_reducible repeat (first | refine blk_drewN ?_ _ | refine blk_drew ?_ | refine blk_alloc ?_ _)); refine blk_far ?_ NB126_134.out _; (with_reducible repeat (first | refine blk_drewN ?_ _ | refine blk_drew ?_ | refine blk_alloc ?_ _)); refine blk_far ?_ NB126_134.out _; (with_reducible repeat (first | refine blk_drewN ?_ _ | refine blk_drew ?_ | refine blk_alloc ?_ _)); exact BK126.out⟩, ⟨by (with_reducible repeat (first | refine blk_drewN ?_ _ | refine blk_drew ?_ | refine blk_alloc ?_ _)); refine blk_far ?_ NB130_134.out _; (with_reducible repeat (first | refine blk_drewN ?_ _ | refine blk_drew ?_ | refine blk_alloc ?_ _)); refine blk_far ?_ NB130_134.out _; (with_reducible repeat (first | refine blk_drewN ?_ _ | refine blk_drew ?_ | refine blk_alloc ?_ _)); refine blk_far ?_ NB130_134.out _; (with_reducible repeat (first | refine blk_drewN ?_ _ | refine blk_drew ?_ | refine blk_alloc ?_ _)); exact BK130.out⟩, ⟨by (with_reducible repeat (first | refine blk_drewN ?_ _ | refine blk_drew ?_ | refine blk_alloc ?_ _)); refine blk_put (cs := #[.bool t131, .int .u64 t132, .int .i64 0]) ?_ 2 _ rfl; (with_reducible repeat (first | refine blk_drewN ?_ _ | refine blk_drew ?_ | refine blk_alloc ?_ _)); refine blk_put (cs := #[.bool t131, .int .u64 0, .int .i64 0]) ?_ 1 _ rfl; (with_reducible repeat (first | refine blk_drewN ?_ _ | refine blk_drew ?_ | refine blk_alloc ?_ _)); refine blk_put (cs := #[.bool false, .int .u64 0, .int .i64 0]) ?_ 0 _ rfl; (with_reducible repeat (first | refine blk_drewN ?_ _ | refine blk_drew ?_ | refine blk_alloc ?_ _)); exact BK134.out⟩, ⟨by repeat (first | (with_reducible first | exact HB.out | apply below_alloc | apply pw_below_drewN | apply below_drew1 | refine below_set ?_ GE125.out | refine below_set ?_ GE126.out | refine below_set ?_ GE130.out | refine below_set ?_ GE134.out) | exact HB.out)⟩⟩
            case rest =>
              clear HC13
              try clear c1
              try clear c2
              try clear p2
              try clear c3
              try clear c4
              try clear p6
              try clear c7
              try clear c7b0
              try clear c8
              try clear c9
              try clear c14
              try clear c17
              try clear c18
              try clear c19
              try clear c24
              try clear c25
              try clear c26
              try clear c28
              try clear c29
              try clear c30
              try clear c31
              try clear c33
              try clear c34
              try clear c36
              try clear c37
              try clear c38
              try clear hcz10_0
              try clear hcz10_1
              try clear hcz10_2
              try clear hcz15_0
              try clear hcz15_1
              try clear hcz20_0
              try clear hcz20_1
              try clear hcz20_2
              try clear hcz21_0
              try clear hcz21_1
              try clear hcz27_0
              try clear hcz27_1
              try clear hcz27_2
              try clear hcz32_0
              try clear hcz32_1
              try clear hcz32_2
              try clear hcz35_0
              try clear hcz35_1
              try clear hcz35_2
              try clear hcz39_0
              try clear hcz39_1
              try clear hcz39_2
              try clear hfz10_0
              try clear hfz10_1
              try clear hfz10_2
              try clear hfz15_0
              try clear hfz15_1
              try clear hfz20_0
              try clear hfz20_1
              try clear hfz20_2
              try clear hfz21_0
              try clear hfz21_1
              try clear hfz27_0
              try clear hfz27_1
              try clear hfz27_2
              try clear hfz32_0
              try clear hfz32_1
              try clear hfz32_2
              try clear hfz35_0
              try clear hfz35_1
              try clear hfz35_2
              try clear hfz39_0
              try clear hfz39_1
              try clear hfz39_2
              try clear p2
              obtain ⟨kq, x40_12, rfl, HA, HJ12, BK125, BK126, BK130, BK134, HB⟩ := hcut
              cases kq with
              | zero => exact absurd HA.out (by simp [spec_GetVar.j2])
              | succ kj12 =>
                have H := HA.out
                clear HA
                simp only [spec_GetVar.j2] at H
                by_cases c40 : x40_12 = true
                · subst c40
                  have H1 : (some (false, 0, 0)) = some (r1, r2, r3) := by rw [if_pos rfl] at H; exact H
                  clear H
                  have H := H1
                  clear H1
                  simp only [Option.some.injEq, Prod.mk.injEq] at H
                  obtain ⟨rfl, rfl, rfl⟩ := H
                  have hnb41 := NB126_125.out
                  have hnc41 := NB125_126.out
                  have hnb42 := NB126_130.out
                  have hnc42 := NB130_126.out
                  have hnb43 := NB126_134.out
                  have hnc43 := NB134_126.out
                  have hcz44_0 : wc.cell? ⟨gb126, 0, none⟩ = some (.bool x127000_2) := (blk_cell BK126.out 0).trans rfl
                  have hcz44_1 : wc.cell? ⟨gb126, 1, none⟩ = some (.int .u64 x127001_2) := (blk_cell BK126.out 1).trans rfl
                  have hcz44_2 : wc.cell? ⟨gb126, 2, none⟩ = some (.int .i64 x127002_2) := (blk_cell BK126.out 2).trans rfl
                  have hfz44_0 := blk_frozen BK126.out 0
                  have hfz44_1 := blk_frozen BK126.out 1
                  have hfz44_2 := blk_frozen BK126.out 2
                  go_wp2
                  refine bodyPost_ret (results_cell_row rfl _ _ gb126 34 #[.bool false, .int .u64 0, .int .i64 0] (0, 0) _ rfl (by (with_reducible repeat (first | refine blk_drewN ?_ _ | refine blk_drew ?_ | refine blk_alloc ?_ _)); refine blk_put (cs := #[.bool false, .int .u64 0, .int .i64 x127002_2]) ?_ 2 _ rfl; (with_reducible repeat (first | refine blk_drewN ?_ _ | refine blk_drew ?_ | refine blk_alloc ?_ _)); refine blk_put (cs := #[.bool false, .int .u64 x127001_2, .int .i64 x127002_2]) ?_ 1 _ rfl; (with_reducible repeat (first | refine blk_drewN ?_ _ | refine blk_drew ?_ | refine blk_alloc ?_ _)); refine blk_put (cs := #[.bool x127000_2, .int .u64 x127001_2, .int .i64 x127002_2]) ?_ 0 _ rfl; (with_reducible repeat (first | refine blk_drewN ?_ _ | refine blk_drew ?_ | refine blk_alloc ?_ _)); exact BK126.out) Try.underlying34 rfl (by kernel_rfl)) rfl ?_
                  exact ⟨by first | rfl | (simp [errW_none, errW_some] <;> rfl) | (simp [*, errW_none, errW_some] <;> rfl), by repeat (first | (with_reducible first | exact HB.out | apply below_alloc | apply pw_below_drewN | apply below_drew1 | refine below_set ?_ GE125.out | refine below_set ?_ GE126.out | refine below_set ?_ GE130.out | refine below_set ?_ GE134.out) | exact HB.out)⟩
                · replace c40 := Bool.eq_false_iff.mpr c40
                  subst c40
                  have H1 : (if t128 = 0 then (if x8_2 > 0 then (spec_GetVar.j3 kj12 t133 a2 x7_2 x8_2 (t132 == 0) l0_0 a0_1 t127 t128 t129 t131 t132 t133) else (spec_GetVar.j3 kj12 t133 a2 x7_2 x8_2 false l0_0 a0_1 t127 t128 t129 t131 t132 t133)) else (if x8_2 ≥ 64 then (spec_GetVar.j3 kj12 t133 a2 x7_2 x8_2 true l0_0 a0_1 t127 t128 t129 t131 t132 t133) else (if 0 ≤ (IntKind.u64.wrap (x8_2)) then (if (shr .u64 (shl .u64 t128 (IntKind.u64.wrap (x8_2))) (IntKind.u64.wrap (x8_2))) = t128 then (if x8_2 > 0 then (spec_GetVar.j3 kj12 t133 a2 x7_2 x8_2 false l0_0 a0_1 t127 t128 t129 t131 t132 t133) else (spec_GetVar.j3 kj12 t133 a2 x7_2 x8_2 false l0_0 a0_1 t127 t128 t129 t131 t132 t133)) else (spec_GetVar.j3 kj12 t133 a2 x7_2 x8_2 true l0_0 a0_1 t127 t128 t129 t131 t132 t133)) else (none)))) = some (r1, r2, r3) := by rw [if_neg (show ¬ (false = true) by decide)] at H; exact H
                  clear H
                  have H := H1
                  clear H1
                  have HC45 := Aside0.mk H
                  clear H
                  have hnb46 := NB134_125.out
                  have hnc46 := NB125_134.out
                  have hnb47 := NB134_126.out
                  have hnc47 := NB126_134.out
                  have hnb48 := NB134_130.out
                  have hnc48 := NB130_134.out
                  have hcz49_0 : wc.cell? ⟨gb134, 0, none⟩ = some (.bool t131) := (blk_cell BK134.out 0).trans rfl
                  have hcz49_1 : wc.cell? ⟨gb134, 1, none⟩ = some (.int .u64 t132) := (blk_cell BK134.out 1).trans rfl
                  have hcz49_2 : wc.cell? ⟨gb134, 2, none⟩ = some (.int .i64 t133) := (blk_cell BK134.out 2).trans rfl
                  have hfz49_0 := blk_frozen BK134.out 0
                  have hfz49_1 := blk_frozen BK134.out 1
                  have hfz49_2 := blk_frozen BK134.out 2
                  go_upto_region 11 with (fail)
                  go_cut [77] (fun v77 wc => ∃ (kq : Nat) (x77_44 : Bool), v77 = .bool x77_44 ∧ Aside0 (spec_GetVar.j3 kq t133 a2 x7_2 x8_2 x77_44 l0_0 a0_1 t127 t128 t129 t131 t132 t133 = some (r1, r2, r3)) ∧ Aside0 (kq ≤ kj12) ∧ Aside0 (wc.heap[gb125]? = some (.cells #[(.slice A0_0 l0_0.length c0_0), .int .i64 a0_1] 27 (0, 0))) ∧ Aside0 (wc.heap[gb126]? = some (.cells #[.bool x127000_2, .int .u64 x127001_2, .int .i64 x127002_2] 34 (0, 0))) ∧ Aside0 (wc.heap[gb130]? = some (.cells #[.bool t127, .int .u64 t128, .int .i64 t129] 34 (0, 0))) ∧ Aside0 (wc.heap[gb134]? = some (.cells #[.bool t131, .int .u64 t132, .int .i64 t133] 34 (0, 0))) ∧ Aside0 (Below w.heap.size w wc))
                  case first =>
                    have H := HC45.out
                    clear HC45
                    by_cases c50 : t128 = 0
                    · rw [if_pos c50] at H
                      have c50b0 : (t128 == 0) = true := beq_iff_eq.mpr c50
                      have c50b1 : (t128 != 0) = false := bne_eq_false_iff_eq.mpr c50
                      clear c50
                      (first | rw [c50b0] | (simp only [i64_w, i32_w]; rw [c50b0]) | skip)
                      by_cases c51 : x8_2 > 0
                      · rw [if_pos c51] at H
                        have c51b0 : decide (0 < x8_2) = true := decide_eq_true c51
                        clear c51
                        have H' := Aside0.mk H
                        clear H
                        have hnb52 := NB130_125.out
                        have hnc52 := NB125_130.out
                        have hnb53 := NB130_126.out
                        have hnc53 := NB126_130.out
                        have hnb54 := NB130_134.out
                        have hnc54 := NB134_130.out
                        have hcz55_0 : wc.cell? ⟨gb130, 0, none⟩ = some (.bool t127) := (blk_cell BK130.out 0).trans rfl
                        have hcz55_1 : wc.cell? ⟨gb130, 1, none⟩ = some (.int .u64 t128) := (blk_cell BK130.out 1).trans rfl
                        have hcz55_2 : wc.cell? ⟨gb130, 2, none⟩ = some (.int .i64 t129) := (blk_cell BK130.out 2).trans rfl
                        have hfz55_0 := blk_frozen BK130.out 0
                        have hfz55_1 := blk_frozen BK130.out 1
                        have hfz55_2 := blk_frozen BK130.out 2
                        have hnb56 := NB134_125.out
                        have hnc56 := NB125_134.out
                        have hnb57 := NB134_126.out
                        have hnc57 := NB126_134.out
                        have hcz58_0 : wc.cell? ⟨gb134, 0, none⟩ = some (.bool t131) := (blk_cell BK134.out 0).trans rfl
                        have hcz58_1 : wc.cell? ⟨gb134, 1, none⟩ = some (.int .u64 t132) := (blk_cell BK134.out 1).trans rfl
                        have hcz58_2 : wc.cell? ⟨gb134, 2, none⟩ = some (.int .i64 t133) := (blk_cell BK134.out 2).trans rfl
                        have hfz58_0 := blk_frozen BK134.out 0
                        have hfz58_1 := blk_frozen BK134.out 1
                        have hfz58_2 := blk_frozen BK134.out 2
                        go_wp2
                        go_meet
                        case rel => exact ⟨_, ((t132 == 0)), (by first | rfl | (simp; done) | (simp [*]; done)), H', ⟨by have := HJ3.out; have := HK2.out; have := HJ12.out; first | omega | exact Nat.le_refl _⟩, ⟨by (with_reducible repeat (first | refine blk_drewN ?_ _ | refine blk_drew ?_ | refine blk_alloc ?_ _)); exact BK125.out⟩, ⟨by (with_reducible repeat (first | refine blk_drewN ?_ _ | refine blk_drew ?_ | refine blk_alloc ?_ _)); exact BK126.out⟩, ⟨by (with_reducible repeat (first | refine blk_drewN ?_ _ | refine blk_drew ?_ | refine blk_alloc ?_ _)); exact BK130.out⟩, ⟨by (with_reducible repeat (first | refine blk_drewN ?_ _ | refine blk_drew ?_ | refine blk_alloc ?_ _)); exact BK134.out⟩, ⟨by repeat (first | (with_reducible first | exact HB.out | apply below_alloc | apply pw_below_drewN | apply below_drew1 | refine below_set ?_ GE125.out | refine below_set ?_ GE126.out | refine below_set ?_ GE130.out | refine below_set ?_ GE134.out) | exact HB.out)⟩⟩
                      · rw [if_neg c51] at H
                        have c51b0 : decide (0 < x8_2) = false := decide_eq_false c51
                        clear c51
                        have H' := Aside0.mk H
                        clear H
                        have hnb59 := NB130_125.out
                        have hnc59 := NB125_130.out
                        have hnb60 := NB130_126.out
                        have hnc60 := NB126_130.out
                        have hnb61 := NB130_134.out
                        have hnc61 := NB134_130.out
                        have hcz62_0 : wc.cell? ⟨gb130, 0, none⟩ = some (.bool t127) := (blk_cell BK130.out 0).trans rfl
                        have hcz62_1 : wc.cell? ⟨gb130, 1, none⟩ = some (.int .u64 t128) := (blk_cell BK130.out 1).trans rfl
                        have hcz62_2 : wc.cell? ⟨gb130, 2, none⟩ = some (.int .i64 t129) := (blk_cell BK130.out 2).trans rfl
                        have hfz62_0 := blk_frozen BK130.out 0
                        have hfz62_1 := blk_frozen BK130.out 1
                        have hfz62_2 := blk_frozen BK130.out 2
                        go_wp2
                        go_meet
                        case rel => exact ⟨_, (false), (by first | rfl | (simp; done) | (simp [*]; done)), H', ⟨by have := HJ3.out; have := HK2.out; have := HJ12.out; first | omega | exact Nat.le_refl _⟩, ⟨by (with_reducible repeat (first | refine blk_drewN ?_ _ | refine blk_drew ?_ | refine blk_alloc ?_ _)); exact BK125.out⟩, ⟨by (with_reducible repeat (first | refine blk_drewN ?_ _ | refine blk_drew ?_ | refine blk_alloc ?_ _)); exact BK126.out⟩, ⟨by (with_reducible repeat (first | refine blk_drewN ?_ _ | refine blk_drew ?_ | refine blk_alloc ?_ _)); exact BK130.out⟩, ⟨by (with_reducible repeat (first | refine blk_drewN ?_ _ | refine blk_drew ?_ | refine blk_alloc ?_ _)); exact BK134.out⟩, ⟨by repeat (first | (with_reducible first | exact HB.out | apply below_alloc | apply pw_below_drewN | apply below_drew1 | refine below_set ?_ GE125.out | refine below_set ?_ GE126.out | refine below_set ?_ GE130.out | refine below_set ?_ GE134.out) | exact HB.out)⟩⟩
                    · rw [if_neg c50] at H
                      have c50b0 : (t128 == 0) = false := beq_eq_false_iff_ne.mpr c50
                      have c50b1 : (t128 != 0) = true := bne_iff_ne.mpr c50
                      (first | rw [c50b0] | (simp only [i64_w, i32_w]; rw [c50b0]) | skip)
                      by_cases c63 : x8_2 ≥ 64
                      · rw [if_pos c63] at H
                        have c63b0 : decide (64 ≤ x8_2) = true := decide_eq_true c63
                        clear c63
                        have H' := Aside0.mk H
                        clear H
                        have hnb64 := NB130_125.out
                        have hnc64 := NB125_130.out
                        have hnb65 := NB130_126.out
                        have hnc65 := NB126_130.out
                        have hnb66 := NB130_134.out
                        have hnc66 := NB134_130.out
                        have hcz67_0 : wc.cell? ⟨gb130, 0, none⟩ = some (.bool t127) := (blk_cell BK130.out 0).trans rfl
                        have hcz67_1 : wc.cell? ⟨gb130, 1, none⟩ = some (.int .u64 t128) := (blk_cell BK130.out 1).trans rfl
                        have hcz67_2 : wc.cell? ⟨gb130, 2, none⟩ = some (.int .i64 t129) := (blk_cell BK130.out 2).trans rfl
                        have hfz67_0 := blk_frozen BK130.out 0
                        have hfz67_1 := blk_frozen BK130.out 1
                        have hfz67_2 := blk_frozen BK130.out 2
                        go_wp2
                        go_meet
                        case rel => exact ⟨_, (true), (by first | rfl | (simp; done) | (simp [*]; done)), H', ⟨by have := HJ3.out; have := HK2.out; have := HJ12.out; first | omega | exact Nat.le_refl _⟩, ⟨by (with_reducible repeat (first | refine blk_drewN ?_ _ | refine blk_drew ?_ | refine blk_alloc ?_ _)); exact BK125.out⟩, ⟨by (with_reducible repeat (first | refine blk_drewN ?_ _ | refine blk_drew ?_ | refine blk_alloc ?_ _)); exact BK126.out⟩, ⟨by (with_reducible repeat (first | refine blk_drewN ?_ _ | refine blk_drew ?_ | refine blk_alloc ?_ _)); exact BK130.out⟩, ⟨by (with_reducible repeat (first | refine blk_drewN ?_ _ | refine blk_drew ?_ | refine blk_alloc ?_ _)); exact BK134.out⟩, ⟨by repeat (first | (with_reducible first | exact HB.out | apply below_alloc | apply pw_below_drewN | apply below_drew1 | refine below_set ?_ GE125.out | refine below_set ?_ GE126.out | refine below_set ?_ GE130.out | refine below_set ?_ GE134.out) | exact HB.out)⟩⟩
                      · rw [if_neg c63] at H
                        have c63b0 : decide (64 ≤ x8_2) = false := decide_eq_false c63
                        clear c63
                        obtain ⟨ji68, hji68⟩ : ∃ j_ : Int, (IntKind.u64.wrap (x8_2)) = j_ := ⟨_, rfl⟩
                        replace H : (if 0 ≤ (ji68) then (if (shr .u64 (shl .u64 t128 (ji68)) (ji68)) = t128 then (if x8_2 > 0 then (spec_GetVar.j3 kj12 t133 a2 x7_2 x8_2 false l0_0 a0_1 t127 t128 t129 t131 t132 t133) else (spec_GetVar.j3 kj12 t133 a2 x7_2 x8_2 false l0_0 a0_1 t127 t128 t129 t131 t132 t133)) else (spec_GetVar.j3 kj12 t133 a2 x7_2 x8_2 true l0_0 a0_1 t127 t128 t129 t131 t132 t133)) else (none)) = some (r1, r2, r3) := by first | (rw [hji68] at H; exact H) | (simp only [hji68] at H ⊢; exact H)
                        by_cases c69 : 0 ≤ (ji68)
                        · rw [if_pos c69] at H
                          have c69b0 := eq_true c69
                          have c69b1 : decide (0 ≤ (ji68)) = true := decide_eq_true c69
                          clear c69
                          obtain ⟨ji70, hji70⟩ : ∃ j_ : Int, (shl .u64 t128 (ji68)) = j_ := ⟨_, rfl⟩
                          replace H : (if (shr .u64 (ji70) (ji68)) = t128 then (if x8_2 > 0 then (spec_GetVar.j3 kj12 t133 a2 x7_2 x8_2 false l0_0 a0_1 t127 t128 t129 t131 t132 t133) else (spec_GetVar.j3 kj12 t133 a2 x7_2 x8_2 false l0_0 a0_1 t127 t128 t129 t131 t132 t133)) else (spec_GetVar.j3 kj12 t133 a2 x7_2 x8_2 true l0_0 a0_1 t127 t128 t129 t131 t132 t133)) = some (r1, r2, r3) := by first | (rw [hji70] at H; exact H) | (simp only [hji70] at H ⊢; exact H)
                          have hji70_ : (IntKind.u64.wrap (t128 * 2 ^ min (ji68).toNat 64)) = ji70 := hji70
                          have hji70z : (ji68) ≤ 64 → (IntKind.u64.wrap (t128 * 2 ^ (ji68).toNat)) = ji70 := shl_small hji70
                          have c71b0 := eq_true (of_decide_eq_true (by first | (with_reducible assumption) | assumption) : 0 ≤ (ji68))
                          obtain ⟨ji72, hji72⟩ : ∃ j_ : Int, (shr .u64 (ji70) (ji68)) = j_ := ⟨_, rfl⟩
                          replace H : (if (ji72) = t128 then (if x8_2 > 0 then (spec_GetVar.j3 kj12 t133 a2 x7_2 x8_2 false l0_0 a0_1 t127 t128 t129 t131 t132 t133) else (spec_GetVar.j3 kj12 t133 a2 x7_2 x8_2 false l0_0 a0_1 t127 t128 t129 t131 t132 t133)) else (spec_GetVar.j3 kj12 t133 a2 x7_2 x8_2 true l0_0 a0_1 t127 t128 t129 t131 t132 t133)) = some (r1, r2, r3) := by first | (rw [hji72] at H; exact H) | (simp only [hji72] at H ⊢; exact H)
                          have hji72_ : ((ji70) / 2 ^ min (ji68).toNat 64) = ji72 := hji72
                          have hji72z : (ji68) ≤ 64 → ((ji70) / 2 ^ (ji68).toNat) = ji72 := shr_small hji72
                          by_cases c73 : (ji72) = t128
                          · rw [if_pos c73] at H
                            have c73b0 : ((ji72) == t128) = true := beq_iff_eq.mpr c73
                            have c73b1 : ((ji72) != t128) = false := bne_eq_false_iff_eq.mpr c73
                            clear c73
                            by_cases c74 : x8_2 > 0
                            · rw [if_pos c74] at H
                              have c74b0 : decide (0 < x8_2) = true := decide_eq_true c74
                              clear c74
                              have H' := Aside0.mk H
                              clear H
                              have hnb75 := NB130_125.out
                              have hnc75 := NB125_130.out
                              have hnb76 := NB130_126.out
                              have hnc76 := NB126_130.out
                              have hnb77 := NB130_134.out
                              have hnc77 := NB134_130.out
                              have hcz78_0 : wc.cell? ⟨gb130, 0, none⟩ = some (.bool t127) := (blk_cell BK130.out 0).trans rfl
                              have hcz78_1 : wc.cell? ⟨gb130, 1, none⟩ = some (.int .u64 t128) := (blk_cell BK130.out 1).trans rfl
                              have hcz78_2 : wc.cell? ⟨gb130, 2, none⟩ = some (.int .i64 t129) := (blk_cell BK130.out 2).trans rfl
                              have hfz78_0 := blk_frozen BK130.out 0
                              have hfz78_1 := blk_frozen BK130.out 1
                              have hfz78_2 := blk_frozen BK130.out 2
                              go_wp2
                              go_meet
                              case rel => exact ⟨_, (false), (by first | rfl | (simp; done) | (simp [*]; done)), H', ⟨by have := HJ3.out; have := HK2.out; have := HJ12.out; first | omega | exact Nat.le_refl _⟩, ⟨by (with_reducible repeat (first | refine blk_drewN ?_ _ | refine blk_drew ?_ | refine blk_alloc ?_ _)); exact BK125.out⟩, ⟨by (with_reducible repeat (first | refine blk_drewN ?_ _ | refine blk_drew ?_ | refine blk_alloc ?_ _)); exact BK126.out⟩, ⟨by (with_reducible repeat (first | refine blk_drewN ?_ _ | refine blk_drew ?_ | refine blk_alloc ?_ _)); exact BK130.out⟩, ⟨by (with_reducible repeat (first | refine blk_drewN ?_ _ | refine blk_drew ?_ | refine blk_alloc ?_ _)); exact BK134.out⟩, ⟨by repeat (first | (with_reducible first | exact HB.out | apply below_alloc | apply pw_below_drewN | apply below_drew1 | refine below_set ?_ GE125.out | refine below_set ?_ GE126.out | refine below_set ?_ GE130.out | refine below_set ?_ GE134.out) | exact HB.out)⟩⟩
                            · rw [if_neg c74] at H
                              have c74b0 : decide (0 < x8_2) = false := decide_eq_false c74
                              clear c74
                              have H' := Aside0.mk H
                              clear H
                              have hnb79 := NB130_125.out
                              have hnc79 := NB125_130.out
                              have hnb80 := NB130_126.out
                              have hnc80 := NB126_130.out
                              have hnb81 := NB130_134.out
                              have hnc81 := NB134_130.out
                              have hcz82_0 : wc.cell? ⟨gb130, 0, none⟩ = some (.bool t127) := (blk_cell BK130.out 0).trans rfl
                              have hcz82_1 : wc.cell? ⟨gb130, 1, none⟩ = some (.int .u64 t128) := (blk_cell BK130.out 1).trans rfl
                              have hcz82_2 : wc.cell? ⟨gb130, 2, none⟩ = some (.int .i64 t129) := (blk_cell BK130.out 2).trans rfl
                              have hfz82_0 := blk_frozen BK130.out 0
                              have hfz82_1 := blk_frozen BK130.out 1
                              have hfz82_2 := blk_frozen BK130.out 2
                              go_wp2
                              go_meet
                              case rel => exact ⟨_, (false), (by first | rfl | (simp; done) | (simp [*]; done)), H', ⟨by have := HJ3.out; have := HK2.out; have := HJ12.out; first | omega | exact Nat.le_refl _⟩, ⟨by (with_reducible repeat (first | refine blk_drewN ?_ _ | refine blk_drew ?_ | refine blk_alloc ?_ _)); exact BK125.out⟩, ⟨by (with_reducible repeat (first | refine blk_drewN ?_ _ | refine blk_drew ?_ | refine blk_alloc ?_ _)); exact BK126.out⟩, ⟨by (with_reducible repeat (first | refine blk_drewN ?_ _ | refine blk_drew ?_ | refine blk_alloc ?_ _)); exact BK130.out⟩, ⟨by (with_reducible repeat (first | refine blk_drewN ?_ _ | refine blk_drew ?_ | refine blk_alloc ?_ _)); exact BK134.out⟩, ⟨by repeat (first | (with_reducible first | exact HB.out | apply below_alloc | apply pw_below_drewN | apply below_drew1 | refine below_set ?_ GE125.out | refine below_set ?_ GE126.out | refine below_set ?_ GE130.out | refine below_set ?_ GE134.out) | exact HB.out)⟩⟩
                          · rw [if_neg c73] at H
                            have c73b0 : ((ji72) == t128) = false := beq_eq_false_iff_ne.mpr c73
                            have c73b1 : ((ji72) != t128) = true := bne_iff_ne.mpr c73
                            have H' := Aside0.mk H
                            clear H
                            have hnb83 := NB130_125.out
                            have hnc83 := NB125_130.out
                            have hnb84 := NB130_126.out
                            have hnc84 := NB126_130.out
                            have hnb85 := NB130_134.out
                            have hnc85 := NB134_130.out
                            have hcz86_0 : wc.cell? ⟨gb130, 0, none⟩ = some (.bool t127) := (blk_cell BK130.out 0).trans rfl
                            have hcz86_1 : wc.cell? ⟨gb130, 1, none⟩ = some (.int .u64 t128) := (blk_cell BK130.out 1).trans rfl
                            have hcz86_2 : wc.cell? ⟨gb130, 2, none⟩ = some (.int .i64 t129) := (blk_cell BK130.out 2).trans rfl
                            have hfz86_0 := blk_frozen BK130.out 0
                            have hfz86_1 := blk_frozen BK130.out 1
                            have hfz86_2 := blk_frozen BK130.out 2
                            go_wp2
                            go_meet
                            case rel => exact ⟨_, (true), (by first | rfl | (simp; done) | (simp [*]; done)), H', ⟨by have := HJ3.out; have := HK2.out; have := HJ12.out; first | omega | exact Nat.le_refl _⟩, ⟨by (with_reducible repeat (first | refine blk_drewN ?_ _ | refine blk_drew ?_ | refine blk_alloc ?_ _)); exact BK125.out⟩, ⟨by (with_reducible repeat (first | refine blk_drewN ?_ _ | refine blk_drew ?_ | refine blk_alloc ?_ _)); exact BK126.out⟩, ⟨by (with_reducible repeat (first | refine blk_drewN ?_ _ | refine blk_drew ?_ | refine blk_alloc ?_ _)); exact BK130.out⟩, ⟨by (with_reducible repeat (first | refine blk_drewN ?_ _ | refine blk_drew ?_ | refine blk_alloc ?_ _)); exact BK134.out⟩, ⟨by repeat (first | (with_reducible first | exact HB.out | apply below_alloc | apply pw_below_drewN | apply below_drew1 | refine below_set ?_ GE125.out | refine below_set ?_ GE126.out | refine below_set ?_ GE130.out | refine below_set ?_ GE134.out) | exact HB.out)⟩⟩
                        · rw [if_neg c69] at H
                          exact absurd H (by simp)
                  case rest =>
                    clear HC45
                    try clear c1
                    try clear c2
                    try clear p2
                    try clear c3
                    try clear c4
                    try clear c5
                    try clear c6
                    try clear p6
                    try clear c7
                    try clear c7b0
                    try clear c8
                    try clear c9
                    try clear c14
                    try clear c17
                    try clear c18
                    try clear c19
                    try clear c24
                    try clear c25
                    try clear c26
                    try clear c28
                    try clear c29
                    try clear c30
                    try clear c31
                    try clear c33
                    try clear c34
                    try clear c36
                    try clear c37
                    try clear c38
                    try clear c40
                    try clear c41
                    try clear c42
                    try clear c43
                    try clear c46
                    try clear c47
                    try clear c48
                    try clear c50
                    try clear c50b0
                    try clear c50b1
                    try clear c51
                    try clear c51b0
                    try clear c52
                    try clear c53
                    try clear c54
                    try clear c56
                    try clear c57
                    try clear c59
                    try clear c60
                    try clear c61
                    try clear c63
                    try clear c63b0
                    try clear c64
                    try clear p64
                    try clear c65
                    try clear c66
                    try clear c69
                    try clear c69b0
                    try clear c69b1
                    try clear c71
                    try clear c71b0
                    try clear c73
                    try clear c73b0
                    try clear c73b1
                    try clear c74
                    try clear c74b0
                    try clear c75
                    try clear c76
                    try clear c77
                    try clear c79
                    try clear c80
                    try clear c81
                    try clear c83
                    try clear c84
                    try clear c85
                    try clear hcz10_0
                    try clear hcz10_1
                    try clear hcz10_2
                    try clear hcz15_0
                    try clear hcz15_1
                    try clear hcz20_0
                    try clear hcz20_1
                    try clear hcz20_2
                    try clear hcz21_0
                    try clear hcz21_1
                    try clear hcz27_0
                    try clear hcz27_1
                    try clear hcz27_2
                    try clear hcz32_0
                    try clear hcz32_1
                    try clear hcz32_2
                    try clear hcz35_0
                    try clear hcz35_1
                    try clear hcz35_2
                    try clear hcz39_0
                    try clear hcz39_1
                    try clear hcz39_2
                    try clear hcz44_0
                    try clear hcz44_1
                    try clear hcz44_2
                    try clear hcz49_0
                    try clear hcz49_1
                    try clear hcz49_2
                    try clear hcz55_0
                    try clear hcz55_1
                    try clear hcz55_2
                    try clear hcz58_0
                    try clear hcz58_1
                    try clear hcz58_2
                    try clear hcz62_0
                    try clear hcz62_1
                    try clear hcz62_2
                    try clear hcz67_0
                    try clear hcz67_1
                    try clear hcz67_2
                    try clear hcz78_0
                    try clear hcz78_1
                    try clear hcz78_2
                    try clear hcz82_0
                    try clear hcz82_1
                    try clear hcz82_2
                    try clear hcz86_0
                    try clear hcz86_1
                    try clear hcz86_2
                    try clear hfz10_0
                    try clear hfz10_1
                    try clear hfz10_2
                    try clear hfz15_0
                    try clear hfz15_1
                    try clear hfz20_0
                    try clear hfz20_1
                    try clear hfz20_2
                    try clear hfz21_0
                    try clear hfz21_1
                    try clear hfz27_0
                    try clear hfz27_1
                    try clear hfz27_2
                    try clear hfz32_0
                    try clear hfz32_1
                    try clear hfz32_2
                    try clear hfz35_0
                    try clear hfz35_1
                    try clear hfz35_2
                    try clear hfz39_0
                    try clear hfz39_1
                    try clear hfz39_2
                    try clear hfz44_0
                    try clear hfz44_1
                    try clear hfz44_2
                    try clear hfz49_0
                    try clear hfz49_1
                    try clear hfz49_2
                    try clear hfz55_0
                    try clear hfz55_1
                    try clear hfz55_2
                    try clear hfz58_0
                    try clear hfz58_1
                    try clear hfz58_2
                    try clear hfz62_0
                    try clear hfz62_1
                    try clear hfz62_2
                    try clear hfz67_0
                    try clear hfz67_1
                    try clear hfz67_2
                    try clear hfz78_0
                    try clear hfz78_1
                    try clear hfz78_2
                    try clear hfz82_0
                    try clear hfz82_1
                    try clear hfz82_2
                    try clear hfz86_0
                    try clear hfz86_1
                    try clear hfz86_2
                    try clear p2
                    try clear p6
                    obtain ⟨kq, x77_44, rfl, HA, HJ44, BK125, BK126, BK130, BK134, HB⟩ := hcut
                    cases kq with
                    | zero => exact absurd HA.out (by simp [spec_GetVar.j3])
                    | succ kj44 =>
                      have H := HA.out
                      clear HA
                      simp only [spec_GetVar.j3] at H
                      by_cases c87 : x77_44 = true
                      · subst c87
                        have H1 : (some (false, 0, 0)) = some (r1, r2, r3) := by rw [if_pos rfl] at H; exact H
                        clear H
                        have H := H1
                        clear H1
                        simp only [Option.some.injEq, Prod.mk.injEq] at H
                        obtain ⟨rfl, rfl, rfl⟩ := H
                        have hnb88 := NB126_125.out
                        have hnc88 := NB125_126.out
                        have hnb89 := NB126_130.out
                        have hnc89 := NB130_126.out
                        have hnb90 := NB126_134.out
                        have hnc90 := NB134_126.out
                        have hcz91_0 : wc.cell? ⟨gb126, 0, none⟩ = some (.bool x127000_2) := (blk_cell BK126.out 0).trans rfl
                        have hcz91_1 : wc.cell? ⟨gb126, 1, none⟩ = some (.int .u64 x127001_2) := (blk_cell BK126.out 1).trans rfl
                        have hcz91_2 : wc.cell? ⟨gb126, 2, none⟩ = some (.int .i64 x127002_2) := (blk_cell BK126.out 2).trans rfl
                        have hfz91_0 := blk_frozen BK126.out 0
                        have hfz91_1 := blk_frozen BK126.out 1
                        have hfz91_2 := blk_frozen BK126.out 2
                        go_wp2
                        refine bodyPost_ret (results_cell_row rfl _ _ gb126 34 #[.bool false, .int .u64 0, .int .i64 0] (0, 0) _ rfl (by (with_reducible repeat (first | refine blk_drewN ?_ _ | refine blk_drew ?_ | refine blk_alloc ?_ _)); refine blk_put (cs := #[.bool false, .int .u64 0, .int .i64 x127002_2]) ?_ 2 _ rfl; (with_reducible repeat (first | refine blk_drewN ?_ _ | refine blk_drew ?_ | refine blk_alloc ?_ _)); refine blk_put (cs := #[.bool false, .int .u64 x127001_2, .int .i64 x127002_2]) ?_ 1 _ rfl; (with_reducible repeat (first | refine blk_drewN ?_ _ | refine blk_drew ?_ | refine blk_alloc ?_ _)); refine blk_put (cs := #[.bool x127000_2, .int .u64 x127001_2, .int .i64 x127002_2]) ?_ 0 _ rfl; (with_reducible repeat (first | refine blk_drewN ?_ _ | refine blk_drew ?_ | refine blk_alloc ?_ _)); exact BK126.out) Try.underlying34 rfl (by kernel_rfl)) rfl ?_
                        exact ⟨by first | rfl | (simp [errW_none, errW_some] <;> rfl) | (simp [*, errW_none, errW_some] <;> rfl), by repeat (first | (with_reducible first | exact HB.out | apply below_alloc | apply pw_below_drewN | apply below_drew1 | refine below_set ?_ GE125.out | refine below_set ?_ GE126.out | refine below_set ?_ GE130.out | refine below_set ?_ GE134.out) | exact HB.out)⟩
                      · replace c87 := Bool.eq_false_iff.mpr c87
                        subst c87
                        have H1 : (if x8_2 < 64 then (if 0 ≤ (IntKind.u64.wrap (x8_2)) then (spec_GetVar.j4 kj44 t133 a2 (Go.bits .or .u64 x7_2 (shl .u64 t128 (IntKind.u64.wrap (x8_2)))) x8_2 l0_0 a0_1 t131 t132 t133) else (none)) else (spec_GetVar.j4 kj44 t133 a2 x7_2 x8_2 l0_0 a0_1 t131 t132 t133)) = some (r1, r2, r3) := by rw [if_neg (show ¬ (false = true) by decide)] at H; exact H
                        clear H
                        have H := H1
                        clear H1
                        have HC92 := Aside0.mk H
                        clear H
                        go_upto_if 80 with (fail)
                        go_cut [7] (fun v7 wc => ∃ (kq : Nat) (x7_91 : Int), v7 = .int .u64 x7_91 ∧ Aside0 (spec_GetVar.j4 kq t133 a2 x7_91 x8_2 l0_0 a0_1 t131 t132 t133 = some (r1, r2, r3)) ∧ Aside0 (kq ≤ kj44) ∧ Aside0 (wc.heap[gb125]? = some (.cells #[(.slice A0_0 l0_0.length c0_0), .int .i64 a0_1] 27 (0, 0))) ∧ Aside0 (wc.heap[gb126]? = some (.cells #[.bool x127000_2, .int .u64 x127001_2, .int .i64 x127002_2] 34 (0, 0))) ∧ Aside0 (wc.heap[gb130]? = some (.cells #[.bool t127, .int .u64 t128, .int .i64 t129] 34 (0, 0))) ∧ Aside0 (wc.heap[gb134]? = some (.cells #[.bool t131, .int .u64 t132, .int .i64 t133] 34 (0, 0))) ∧ Aside0 (Below w.heap.size w wc))
                        case first =>
                          have H := HC92.out
                          clear HC92
                          by_cases c93 : x8_2 < 64
                          · rw [if_pos c93] at H
                            have c93b0 : decide (x8_2 < 64) = true := decide_eq_true c93
                            clear c93
                            (first | rw [c93b0] | (simp only [i64_w, i32_w]; rw [c93b0]) | skip)
                            obtain ⟨ji94, hji94⟩ : ∃ j_ : Int, (IntKind.u64.wrap (x8_2)) = j_ := ⟨_, rfl⟩
                            replace H : (if 0 ≤ (ji94) then (spec_GetVar.j4 kj44 t133 a2 (Go.bits .or .u64 x7_2 (shl .u64 t128 (ji94))) x8_2 l0_0 a0_1 t131 t132 t133) else (none)) = some (r1, r2, r3) := by first | (rw [hji94] at H; exact H) | (simp only [hji94] at H ⊢; exact H)
                            by_cases c95 : 0 ≤ (ji94)
                            · rw [if_pos c95] at H
                              have c95b0 := eq_true c95
                              have c95b1 : decide (0 ≤ (ji94)) = true := decide_eq_true c95
                              clear c95
                              obtain ⟨ji96, hji96⟩ : ∃ j_ : Int, (shl .u64 t128 (ji94)) = j_ := ⟨_, rfl⟩
                              replace H : (spec_GetVar.j4 kj44 t133 a2 (Go.bits .or .u64 x7_2 (ji96)) x8_2 l0_0 a0_1 t131 t132 t133) = some (r1, r2, r3) := by first | (rw [hji96] at H; exact H) | (simp only [hji96] at H ⊢; exact H)
                              have hji96_ : (IntKind.u64.wrap (t128 * 2 ^ min (ji94).toNat 64)) = ji96 := hji96
                              have hji96z : (ji94) ≤ 64 → (IntKind.u64.wrap (t128 * 2 ^ (ji94).toNat)) = ji96 := shl_small hji96
                              have H' := Aside0.mk H
                              clear H
                              have hnb97 := NB130_125.out
                              have hnc97 := NB125_130.out
                              have hnb98 := NB130_126.out
                              have hnc98 := NB126_130.out
                              have hnb99 := NB130_134.out
                              have hnc99 := NB134_130.out
                              have hcz100_0 : wc.cell? ⟨gb130, 0, none⟩ = some (.bool t127) := (blk_cell BK130.out 0).trans rfl
                              have hcz100_1 : wc.cell? ⟨gb130, 1, none⟩ = some (.int .u64 t128) := (blk_cell BK130.out 1).trans rfl
                              have hcz100_2 : wc.cell? ⟨gb130, 2, none⟩ = some (.int .i64 t129) := (blk_cell BK130.out 2).trans rfl
                              have hfz100_0 := blk_frozen BK130.out 0
                              have hfz100_1 := blk_frozen BK130.out 1
                              have hfz100_2 := blk_frozen BK130.out 2
                              go_wp2
                              go_meet
                              case rel => exact ⟨_, (Go.bits .or .u64 x7_2 (ji96)), (by first | rfl | (simp; done) | (simp only [← hji96] <;> (first | rfl | simp)) | (simp [*]; done)), H', ⟨by have := HJ3.out; have := HK2.out; have := HJ12.out; have := HJ44.out; first | omega | exact Nat.le_refl _⟩, ⟨by (with_reducible repeat (first | refine blk_drewN ?_ _ | refine blk_drew ?_ | refine blk_alloc ?_ _)); exact BK125.out⟩, ⟨by (with_reducible repeat (first | refine blk_drewN ?_ _ | refine blk_drew ?_ | refine blk_alloc ?_ _)); exact BK126.out⟩, ⟨by (with_reducible repeat (first | refine blk_drewN ?_ _ | refine blk_drew ?_ | refine blk_alloc ?_ _)); exact BK130.out⟩, ⟨by (with_reducible repeat (first | refine blk_drewN ?_ _ | refine blk_drew ?_ | refine blk_alloc ?_ _)); exact BK134.out⟩, ⟨by repeat (first | (with_reducible first | exact HB.out | apply below_alloc | apply pw_below_drewN | apply below_drew1 | refine below_set ?_ GE125.out | refine below_set ?_ GE126.out | refine below_set ?_ GE130.out | refine below_set ?_ GE134.out) | exact HB.out)⟩⟩
                            · rw [if_neg c95] at H
                              exact absurd H (by simp)
                          · rw [if_neg c93] at H
                            have c93b0 : decide (x8_2 < 64) = false := decide_eq_false c93
                            clear c93
                            (first | rw [c93b0] | (simp only [i64_w, i32_w]; rw [c93b0]) | skip)
                            have H' := Aside0.mk H
                            clear H
                            go_wp2
                            go_meet
                            case rel => exact ⟨_, (x7_2), (by first | rfl | (simp; done) | (simp [*]; done)), H', ⟨by have := HJ3.out; have := HK2.out; have := HJ12.out; have := HJ44.out; first | omega | exact Nat.le_refl _⟩, ⟨by (with_reducible repeat (first | refine blk_drewN ?_ _ | refine blk_drew ?_ | refine blk_alloc ?_ _)); exact BK125.out⟩, ⟨by (with_reducible repeat (first | refine blk_drewN ?_ _ | refine blk_drew ?_ | refine blk_alloc ?_ _)); exact BK126.out⟩, ⟨by (with_reducible repeat (first | refine blk_drewN ?_ _ | refine blk_drew ?_ | refine blk_alloc ?_ _)); exact BK130.out⟩, ⟨by (with_reducible repeat (first | refine blk_drewN ?_ _ | refine blk_drew ?_ | refine blk_alloc ?_ _)); exact BK134.out⟩, ⟨by repeat (first | (with_reducible first | exact HB.out | apply below_alloc | apply pw_below_drewN | apply below_drew1 | refine below_set ?_ GE125.out | refine below_set ?_ GE126.out | refine below_set ?_ GE130.out | refine below_set ?_ GE134.out) | exact HB.out)⟩⟩
                        case rest =>
                          clear HC92
                          try clear c1
                          try clear c2
                          try clear p2
                          try clear c3
                          try clear c4
                          try clear c5
                          try clear c6
                          try clear p6
                          try clear c7
                          try clear c7b0
                          try clear c8
                          try clear c9
                          try clear c14
                          try clear c17
                          try clear c18
                          try clear c19
                          try clear c24
                          try clear c25
                          try clear c26
                          try clear c28
                          try clear c29
                          try clear c30
                          try clear c31
                          try clear c33
                          try clear c34
                          try clear c36
                          try clear c37
                          try clear c38
                          try clear c40
                          try clear c41
                          try clear c42
                          try clear c43
                          try clear c46
                          try clear c47
                          try clear c48
                          try clear c50
                          try clear c50b0
                          try clear c50b1
                          try clear c51
                          try clear c51b0
                          try clear c52
                          try clear c53
                          try clear c54
                          try clear c56
                          try clear c57
                          try clear c59
                          try clear c60
                          try clear c61
                          try clear c63
                          try clear c63b0
                          try clear c64
                          try clear p64
                          try clear c65
                          try clear c66
                          try clear c69
                          try clear c69b0
                          try clear c69b1
                          try clear c71
                          try clear c71b0
                          try clear c73
                          try clear c73b0
                          try clear c73b1
                          try clear c74
                          try clear c74b0
                          try clear c75
                          try clear c76
                          try clear c77
                          try clear c79
                          try clear c80
                          try clear c81
                          try clear c83
                          try clear c84
                          try clear c85
                          try clear c87
                          try clear c88
                          try clear c89
                          try clear c90
                          try clear c93
                          try clear c93b0
                          try clear c95
                          try clear c95b0
                          try clear c95b1
                          try clear c97
                          try clear c98
                          try clear c99
                          try clear hcz100_0
                          try clear hcz100_1
                          try clear hcz100_2
                          try clear hcz10_0
                          try clear hcz10_1
                          try clear hcz10_2
                          try clear hcz15_0
                          try clear hcz15_1
                          try clear hcz20_0
                          try clear hcz20_1
                          try clear hcz20_2
                          try clear hcz21_0
                          try clear hcz21_1
                          try clear hcz27_0
                          try clear hcz27_1
                          try clear hcz27_2
                          try clear hcz32_0
                          try clear hcz32_1
                          try clear hcz32_2
                          try clear hcz35_0
                          try clear hcz35_1
                          try clear hcz35_2
                          try clear hcz39_0
                          try clear hcz39_1
                          try clear hcz39_2
                          try clear hcz44_0
                          try clear hcz44_1
                          try clear hcz44_2
                          try clear hcz49_0
                          try clear hcz49_1
                          try clear hcz49_2
                          try clear hcz55_0
                          try clear hcz55_1
                          try clear hcz55_2
                          try clear hcz58_0
                          try clear hcz58_1
                          try clear hcz58_2
                          try clear hcz62_0
                          try clear hcz62_1
                          try clear hcz62_2
                          try clear hcz67_0
                          try clear hcz67_1
                          try clear hcz67_2
                          try clear hcz78_0
                          try clear hcz78_1
                          try clear hcz78_2
                          try clear hcz82_0
                          try clear hcz82_1
                          try clear hcz82_2
                          try clear hcz86_0
                          try clear hcz86_1
                          try clear hcz86_2
                          try clear hcz91_0
                          try clear hcz91_1
                          try clear hcz91_2
                          try clear hfz100_0
                          try clear hfz100_1
                          try clear hfz100_2
                          try clear hfz10_0
                          try clear hfz10_1
                          try clear hfz10_2
                          try clear hfz15_0
                          try clear hfz15_1
                          try clear hfz20_0
                          try clear hfz20_1
                          try clear hfz20_2
                          try clear hfz21_0
                          try clear hfz21_1
                          try clear hfz27_0
                          try clear hfz27_1
                          try clear hfz27_2
                          try clear hfz32_0
                          try clear hfz32_1
                          try clear hfz32_2
                          try clear hfz35_0
                          try clear hfz35_1
                          try clear hfz35_2
                          try clear hfz39_0
                          try clear hfz39_1
                          try clear hfz39_2
                          try clear hfz44_0
                          try clear hfz44_1
                          try clear hfz44_2
                          try clear hfz49_0
                          try clear hfz49_1
                          try clear hfz49_2
                          try clear hfz55_0
                          try clear hfz55_1
                          try clear hfz55_2
                          try clear hfz58_0
                          try clear hfz58_1
                          try clear hfz58_2
                          try clear hfz62_0
                          try clear hfz62_1
                          try clear hfz62_2
                          try clear hfz67_0
                          try clear hfz67_1
                          try clear hfz67_2
                          try clear hfz78_0
                          try clear hfz78_1
                          try clear hfz78_2
                          try clear hfz82_0
                          try clear hfz82_1
                          try clear hfz82_2
                          try clear hfz86_0
                          try clear hfz86_1
                          try clear hfz86_2
                          try clear hfz91_0
                          try clear hfz91_1
                          try clear hfz91_2
                          try clear p2
                          try clear p6
                          try clear p64
                          obtain ⟨kq, x7_91, rfl, HA, HJ91, BK125, BK126, BK130, BK134, HB⟩ := hcut
                          cases kq with
                          | zero => exact absurd HA.out (by simp [spec_GetVar.j4])
                          | succ kj91 =>
                            have H := HA.out
                            clear HA
                            simp only [spec_GetVar.j4] at H
                            by_cases c101 : t132 = 0
                            · rw [if_pos c101] at H
                              have c101b0 : (t132 == 0) = true := beq_iff_eq.mpr c101
                              have c101b1 : (t132 != 0) = false := bne_eq_false_iff_eq.mpr c101
                              clear c101
                              simp only [Option.some.injEq, Prod.mk.injEq] at H
                              obtain ⟨rfl, rfl, rfl⟩ := H
                              have hnb102 := NB134_125.out
                              have hnc102 := NB125_134.out
                              have hnb103 := NB134_126.out
                              have hnc103 := NB126_134.out
                              have hnb104 := NB134_130.out
                              have hnc104 := NB130_134.out
                              have hcz105_0 : wc.cell? ⟨gb134, 0, none⟩ = some (.bool t131) := (blk_cell BK134.out 0).trans rfl
                              have hcz105_1 : wc.cell? ⟨gb134, 1, none⟩ = some (.int .u64 t132) := (blk_cell BK134.out 1).trans rfl
                              have hcz105_2 : wc.cell? ⟨gb134, 2, none⟩ = some (.int .i64 t133) := (blk_cell BK134.out 2).trans rfl
                              have hfz105_0 := blk_frozen BK134.out 0
                              have hfz105_1 := blk_frozen BK134.out 1
                              have hfz105_2 := blk_frozen BK134.out 2
                              have hnb106 := NB126_125.out
                              have hnc106 := NB125_126.out
                              have hnb107 := NB126_130.out
                              have hnc107 := NB130_126.out
                              have hcz108_0 : wc.cell? ⟨gb126, 0, none⟩ = some (.bool x127000_2) := (blk_cell BK126.out 0).trans rfl
                              have hcz108_1 : wc.cell? ⟨gb126, 1, none⟩ = some (.int .u64 x127001_2) := (blk_cell BK126.out 1).trans rfl
                              have hcz108_2 : wc.cell? ⟨gb126, 2, none⟩ = some (.int .i64 x127002_2) := (blk_cell BK126.out 2).trans rfl
                              have hfz108_0 := blk_frozen BK126.out 0
                              have hfz108_1 := blk_frozen BK126.out 1
                              have hfz108_2 := blk_frozen BK126.out 2
                              go_wp2
                              refine bodyPost_ret (results_cell_row rfl _ _ gb126 34 #[.bool true, .int .u64 x7_91, .int .i64 t133] (0, 0) _ rfl (by (with_reducible repeat (first | refine blk_drewN ?_ _ | refine blk_drew ?_ | refine blk_alloc ?_ _)); refine blk_put (cs := #[.bool true, .int .u64 x7_91, .int .i64 x127002_2]) ?_ 2 _ rfl; (with_reducible repeat (first | refine blk_drewN ?_ _ | refine blk_drew ?_ | refine blk_alloc ?_ _)); refine blk_put (cs := #[.bool true, .int .u64 x127001_2, .int .i64 x127002_2]) ?_ 1 _ rfl; (with_reducible repeat (first | refine blk_drewN ?_ _ | refine blk_drew ?_ | refine blk_alloc ?_ _)); refine blk_put (cs := #[.bool x127000_2, .int .u64 x127001_2, .int .i64 x127002_2]) ?_ 0 _ rfl; (with_reducible repeat (first | refine blk_drewN ?_ _ | refine blk_drew ?_ | refine blk_alloc ?_ _)); exact BK126.out) Try.underlying34 rfl (by kernel_rfl)) rfl ?_
                              exact ⟨by first | rfl | (simp [errW_none, errW_some] <;> rfl) | (simp [*, errW_none, errW_some] <;> rfl), by repeat (first | (with_reducible first | exact HB.out | apply below_alloc | apply pw_below_drewN | apply below_drew1 | refine below_set ?_ GE125.out | refine below_set ?_ GE126.out | refine below_set ?_ GE130.out | refine below_set ?_ GE134.out) | exact HB.out)⟩
                            · rw [if_neg c101] at H
                              have c101b0 : (t132 == 0) = false := beq_eq_false_iff_ne.mpr c101
                              have c101b1 : (t132 != 0) = true := bne_iff_ne.mpr c101
                              by_cases c109 : x8_2 ≥ 64
                              · rw [if_pos c109] at H
                                have c109b0 : decide (64 ≤ x8_2) = true := decide_eq_true c109
                                clear c109
                                simp only [Option.some.injEq, Prod.mk.injEq] at H
                                obtain ⟨rfl, rfl, rfl⟩ := H
                                have hnb110 := NB134_125.out
                                have hnc110 := NB125_134.out
                                have hnb111 := NB134_126.out
                                have hnc111 := NB126_134.out
                                have hnb112 := NB134_130.out
                                have hnc112 := NB130_134.out
                                have hcz113_0 : wc.cell? ⟨gb134, 0, none⟩ = some (.bool t131) := (blk_cell BK134.out 0).trans rfl
                                have hcz113_1 : wc.cell? ⟨gb134, 1, none⟩ = some (.int .u64 t132) := (blk_cell BK134.out 1).trans rfl
                                have hcz113_2 : wc.cell? ⟨gb134, 2, none⟩ = some (.int .i64 t133) := (blk_cell BK134.out 2).trans rfl
                                have hfz113_0 := blk_frozen BK134.out 0
                                have hfz113_1 := blk_frozen BK134.out 1
                                have hfz113_2 := blk_frozen BK134.out 2
                                have hnb114 := NB126_125.out
                                have hnc114 := NB125_126.out
                                have hnb115 := NB126_130.out
                                have hnc115 := NB130_126.out
                                have hcz116_0 : wc.cell? ⟨gb126, 0, none⟩ = some (.bool x127000_2) := (blk_cell BK126.out 0).trans rfl
                                have hcz116_1 : wc.cell? ⟨gb126, 1, none⟩ = some (.int .u64 x127001_2) := (blk_cell BK126.out 1).trans rfl
                                have hcz116_2 : wc.cell? ⟨gb126, 2, none⟩ = some (.int .i64 x127002_2) := (blk_cell BK126.out 2).trans rfl
                                have hfz116_0 := blk_frozen BK126.out 0
                                have hfz116_1 := blk_frozen BK126.out 1
                                have hfz116_2 := blk_frozen BK126.out 2
                                go_wp2
                                refine bodyPost_ret (results_cell_row rfl _ _ gb126 34 #[.bool false, .int .u64 0, .int .i64 0] (0, 0) _ rfl (by (with_reducible repeat (first | refine blk_drewN ?_ _ | refine blk_drew ?_ | refine blk_alloc ?_ _)); refine blk_put (cs := #[.bool false, .int .u64 0, .int .i64 x127002_2]) ?_ 2 _ rfl; (with_reducible repeat (first | refine blk_drewN ?_ _ | refine blk_drew ?_ | refine blk_alloc ?_ _)); refine blk_put (cs := #[.bool false, .int .u64 x127001_2, .int .i64 x127002_2]) ?_ 1 _ rfl; (with_reducible repeat (first | refine blk_drewN ?_ _ | refine blk_drew ?_ | refine blk_alloc ?_ _)); refine blk_put (cs := #[.bool x127000_2, .int .u64 x127001_2, .int .i64 x127002_2]) ?_ 0 _ rfl; (with_reducible repeat (first | refine blk_drewN ?_ _ | refine blk_drew ?_ | refine blk_alloc ?_ _)); exact BK126.out) Try.underlying34 rfl (by kernel_rfl)) rfl ?_
                                exact ⟨by first | rfl | (simp [errW_none, errW_some] <;> rfl) | (simp [*, errW_none, errW_some] <;> rfl), by repeat (first | (with_reducible first | exact HB.out | apply below_alloc | apply pw_below_drewN | apply below_drew1 | refine below_set ?_ GE125.out | refine below_set ?_ GE126.out | refine below_set ?_ GE130.out | refine below_set ?_ GE134.out) | exact HB.out)⟩
                              · rw [if_neg c109] at H
                                have c109b0 : decide (64 ≤ x8_2) = false := decide_eq_false c109
                                clear c109
                                have H' := Aside0.mk H
                                clear H
                                have hnb117 := NB134_125.out
                                have hnc117 := NB125_134.out
                                have hnb118 := NB134_126.out
                                have hnc118 := NB126_134.out
                                have hnb119 := NB134_130.out
                                have hnc119 := NB130_134.out
                                have hcz120_0 : wc.cell? ⟨gb134, 0, none⟩ = some (.bool t131) := (blk_cell BK134.out 0).trans rfl
                                have hcz120_1 : wc.cell? ⟨gb134, 1, none⟩ = some (.int .u64 t132) := (blk_cell BK134.out 1).trans rfl
                                have hcz120_2 : wc.cell? ⟨gb134, 2, none⟩ = some (.int .i64 t133) := (blk_cell BK134.out 2).trans rfl
                                have hfz120_0 := blk_frozen BK134.out 0
                                have hfz120_1 := blk_frozen BK134.out 1
                                have hfz120_2 := blk_frozen BK134.out 2
                                go_wp2
                                go_roundg kj91
                                case measure => have := HJ3.out; have := HK2.out; have := HJ12.out; have := HJ44.out; have := HJ91.out; omega
                                case rel => exact ⟨(t133), (x7_91), (wrap64 ((wrap64 (x8_2 + a2)) - 1)), (x127000_2), (x127001_2), (x127002_2), (by first | rfl | (simp; done) | (simp [*]; done)), (by first | rfl | (simp; done) | (simp [*]; done)), (by first | rfl | (simp; done) | (simp [*]; done)), H', ⟨by have := HJ3.out; have := HK2.out; have := HJ12.out; have := HJ44.out; have := HJ91.out; omega⟩, ⟨by (with_reducible repeat (first | refine blk_drewN ?_ _ | refine blk_drew ?_ | refine blk_alloc ?_ _)); exact BK125.out⟩, ⟨by (with_reducible repeat (first | refine blk_drewN ?_ _ | refine blk_drew ?_ | refine blk_alloc ?_ _)); exact BK126.out⟩, ⟨by repeat (first | (with_reducible first | exact HB.out | apply below_alloc | apply pw_below_drewN | apply below_drew1 | refine below_set ?_ GE125.out | refine below_set ?_ GE126.out | refine below_set ?_ GE130.out | refine below_set ?_ GE134.out) | exact HB.out)⟩⟩

end Go.Proofs.Ytcjdgimiobhhnaa.QFnExactGetVar
