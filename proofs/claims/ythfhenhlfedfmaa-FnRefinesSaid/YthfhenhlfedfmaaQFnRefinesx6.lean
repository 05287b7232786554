-- written by mp.py, a program of this session, over the translation; Lean checks it
import Derived.Test.YthfhenhlfedfmaaQFnRefinesx0
import Derived.Test.YthfhenhlfedfmaaQFnRefinesx1
namespace Go.Proofs.Ythfhenhlfedfmaa.QFnRefines
open Go.RowKit Go.Proofs.YthfhenhlfedfmaaW.PrintWords Go.Proofs.YthfhenhlfedfmaaW.PrintLast Go.Proofs.YthfhenhlfedfmaaW.PrintMore
attribute [local go_sem] max2_int min2_int max_two min_two max_three min_three max_four min_four   -- for this text's walks alone
set_option linter.unusedVariables false
set_option linter.unusedSimpArgs false

attribute [local go_sem high] eqA50
/-! ### spec_l7Begins: function 81 -/
def spec_l7Begins.l0 : Nat → List Int → List Int → Int → Option (Bool)
  | 0, _, _, _ => none
  | k + 1, x0, x1, x5 => if x5 < (x0.length : Int) then (if 0 ≤ x5 then (if x5 < (x1.length : Int) then (if (rd x0 x5) = (rd x1 x5) then (spec_l7Begins.l0 k x0 x1 (wrap64 (x5 + 1))) else (some false)) else (none)) else (none)) else (some true)
def spec_l7Begins.f (k : Nat) (l0 : List Int) (l1 : List Int) : Option (Bool) := if (l0.length : Int) > (l1.length : Int) then (some false) else (spec_l7Begins.l0 k l0 l1 0)
theorem spec_l7Begins.mono_l : ∀ k, (∀ y0 y1 y2, LeO (spec_l7Begins.l0 k y0 y1 y2) (spec_l7Begins.l0 (k + 1) y0 y1 y2))
  | 0 => fun _ _ _ r h => by simp [spec_l7Begins.l0] at h
  | k + 1 => by
    have ih0 := spec_l7Begins.mono_l k
    · intro y0 y1 y2
      unfold spec_l7Begins.l0
      repeat' first
      | (with_reducible exact ih0 _ _ _)
      | (with_reducible exact LeO.refl _)
      | (with_reducible exact LeO.none _)
      | (with_reducible refine LeO.ite ?_ ?_)
      | (with_reducible refine LeO.bind ?_ (fun _ => ?_))
      | exact ih0 _ _ _
      | exact LeO.none _
      | refine LeO.ite ?_ ?_
      | refine LeO.bind ?_ (fun _ => ?_)
theorem spec_l7Begins.mono : ∀ a0 a1 k, LeO (spec_l7Begins.f k a0 a1) (spec_l7Begins.f (k + 1) a0 a1) := by
  intro a0 a1 k
  have ih0 := spec_l7Begins.mono_l k
  unfold spec_l7Begins.f
  repeat' first
      | (with_reducible exact ih0 _ _ _)
      | (with_reducible exact LeO.refl _)
      | (with_reducible exact LeO.none _)
      | (with_reducible refine LeO.ite ?_ ?_)
      | (with_reducible refine LeO.bind ?_ (fun _ => ?_))
      | exact ih0 _ _ _
      | exact LeO.none _
      | refine LeO.ite ?_ ?_
      | refine LeO.bind ?_ (fun _ => ?_)
set_option maxHeartbeats 8000000 in
set_option maxRecDepth 100000 in
theorem spec_l7Begins.calls (k : Nat) (A0 : Option Addr) (c0 : Nat) (l0 : List Int) (A1 : Option Addr) (c1 : Nat) (l1 : List Int) (r : Bool) (w : World) (hr0 : Kd.C (Kd.int .u64) w A0 l0.length l0) (hc0 : l0.length ≤ c0) (hr1 : Kd.C (Kd.int .u64) w A1 l1.length l1) (hc1 : l1.length ≤ c1) (h : spec_l7Begins.f k l0 l1 = some r) :
    Calls Try.prog 81 #[.slice A0 l0.length c0, .slice A1 l1.length c1] w fun e w' => e = .returned (.bool r) ∧ Drawn0 w w' := by
  have HR0 := Aside0.mk hr0
  have HC0 := Aside0.mk hc0
  clear hr0 hc0
  have HR1 := Aside0.mk hr1
  have HC1 := Aside0.mk hc1
  clear hr1 hc1
  have H : (if (l0.length : Int) > (l1.length : Int) then (some false) else (spec_l7Begins.l0 k l0 l1 0)) = some r := h
  clear h
  by_cases c3 : (l0.length : Int) > (l1.length : Int)
  · rw [if_pos c3] at H
    have c3b0 : decide ((l1.length : Int) < (l0.length : Int)) = true := decide_eq_true c3
    have c3b1 : decide (l1.length < l0.length) = true := decide_eq_true (Int.ofNat_lt.mp c3)
    clear c3
    obtain rfl := Option.some.inj H
    go_enter Try.func81, Try.ntmps81
    go_wp2
    repeat (go_quiet (fail); try go_wp2)
    go_ret
    exact ⟨by first | rfl | (simp; done) | (simp [*]; done), by repeat (first | exact Drawn0.refl _ | apply Drawn0.step)⟩
  · rw [if_neg c3] at H
    have c3b0 : decide ((l1.length : Int) < (l0.length : Int)) = false := decide_eq_false c3
    have c3b1 : decide (l1.length < l0.length) = false := decide_eq_false (fun h => c3 (Int.ofNat_lt.mpr h))
    clear c3
    have H' := Aside0.mk H
    clear H
    go_enter Try.func81, Try.ntmps81
    go_wp2
    repeat (go_quiet (fail); try go_wp2)
    go_loopg [5] k (fun kq v5 w' => ∃ (x5_1 : Int), v5 = .int .i64 x5_1 ∧ Aside0 (spec_l7Begins.l0 kq l0 l1 x5_1 = some r) ∧ Aside0 (kq ≤ k) ∧ Drawn0 w w')
    case atStart => exact ⟨(0), (by first | rfl | (simp; done) | (simp [*]; done)), H', ⟨Nat.le_refl _⟩, by repeat (first | exact Drawn0.refl _ | apply Drawn0.step)⟩
    case round =>
      clear H'
      try clear c1
      try clear p2
      try clear c3
      try clear c3b0
      try clear c3b1
      obtain ⟨x5_1, rfl, HA, HK1, ⟨m1, rfl⟩⟩ := hrel
      cases gk with
      | zero => exact absurd HA.out (by simp [spec_l7Begins.l0])
      | succ k1 =>
        have H := HA.out
        clear HA
        simp only [spec_l7Begins.l0] at H
        by_cases c4 : x5_1 < (l0.length : Int)
        · rw [if_pos c4] at H
          have c4b0 : decide (x5_1 < (l0.length : Int)) = true := decide_eq_true c4
          clear c4
          by_cases c5 : 0 ≤ x5_1
          · rw [if_pos c5] at H
            have c5b0 : decide (0 ≤ x5_1) = true := decide_eq_true c5
            clear c5
            by_cases c6 : x5_1 < (l1.length : Int)
            · rw [if_pos c6] at H
              have c6b0 : decide (x5_1 < (l1.length : Int)) = true := decide_eq_true c6
              clear c6
              by_cases c7 : (rd l0 x5_1) = (rd l1 x5_1)
              · rw [if_pos c7] at H
                have c7b0 : ((rd l0 x5_1) == (rd l1 x5_1)) = true := beq_iff_eq.mpr c7
                have c7b1 : ((rd l0 x5_1) != (rd l1 x5_1)) = false := bne_eq_false_iff_eq.mpr c7
                clear c7
                have H' := Aside0.mk H
                clear H
                have p189 : 0 ≤ (x5_1 : Int) := of_decide_eq_true (by first | (with_reducible assumption) | assumption)
                have q189 : x5_1 < (l0.length : Int) := of_decide_eq_true (by first | (with_reducible assumption) | assumption)
                obtain ⟨ad189, e189, hx189_0⟩ := Kd.at_int HR0.out x5_1 p189 q189
                cases e189
                replace p189 := eq_true p189
                replace q189 := eq_true q189
                have p190 : 0 ≤ (x5_1 : Int) := of_decide_eq_true (by first | (with_reducible assumption) | assumption)
                have q190 : x5_1 < (l1.length : Int) := of_decide_eq_true (by first | (with_reducible assumption) | assumption)
                obtain ⟨ad190, e190, hx190_0⟩ := Kd.at_int HR1.out x5_1 p190 q190
                cases e190
                replace p190 := eq_true p190
                replace q190 := eq_true q190
                go_wp2
                repeat (go_quiet (fail); try go_wp2)
                go_roundg k1
                case measure => have := HK1.out; omega
                case rel => exact ⟨(wrap64 (x5_1 + 1)), (by first | rfl | (simp; done) | (simp [*]; done)), H', ⟨by have := HK1.out; omega⟩, by repeat (first | exact Drawn0.refl _ | apply Drawn0.step)⟩
              · rw [if_neg c7] at H
                have c7b0 : ((rd l0 x5_1) == (rd l1 x5_1)) = false := beq_eq_false_iff_ne.mpr c7
                have c7b1 : ((rd l0 x5_1) != (rd l1 x5_1)) = true := bne_iff_ne.mpr c7
                obtain rfl := Option.some.inj H
                have p189 : 0 ≤ (x5_1 : Int) := of_decide_eq_true (by first | (with_reducible assumption) | assumption)
                have q189 : x5_1 < (l0.length : Int) := of_decide_eq_true (by first | (with_reducible assumption) | assumption)
                obtain ⟨ad189, e189, hx189_0⟩ := Kd.at_int HR0.out x5_1 p189 q189
                cases e189
                replace p189 := eq_true p189
                replace q189 := eq_true q189
                have p190 : 0 ≤ (x5_1 : Int) := of_decide_eq_true (by first | (with_reducible assumption) | assumption)
                have q190 : x5_1 < (l1.length : Int) := of_decide_eq_true (by first | (with_reducible assumption) | assumption)
                obtain ⟨ad190, e190, hx190_0⟩ := Kd.at_int HR1.out x5_1 p190 q190
                cases e190
                replace p190 := eq_true p190
                replace q190 := eq_true q190
                go_wp2
                repeat (go_quiet (fail); try go_wp2)
                go_ret
                exact ⟨by first | rfl | (simp; done) | (simp [*]; done), by repeat (first | exact Drawn0.refl _ | apply Drawn0.step)⟩
            · rw [if_neg c6] at H
              exact absurd H (by simp)
          · rw [if_neg c5] at H
            exact absurd H (by simp)
        · rw [if_neg c4] at H
          have c4b0 : decide (x5_1 < (l0.length : Int)) = false := decide_eq_false c4
          clear c4
          obtain rfl := Option.some.inj H
          go_wp2
          repeat (go_quiet (fail); try go_wp2)
          go_ret
          exact ⟨by first | rfl | (simp; done) | (simp [*]; done), by repeat (first | exact Drawn0.refl _ | apply Drawn0.step)⟩

/-! ### spec_Refines: function 35 -/
def spec_Refines.j0 : Nat → Bool → Int → Bool → Int → Int → List Int → Int → Int → Bool → Int → Int → List Int → Int → Option (Bool)
  | 0, _, _, _, _, _, _, _, _, _, _, _, _, _ => none
  | k + 1, x20, x192000, x192001, x192002, x192003, x192004, x192005, x193000, x193001, x193002, x193003, x193004, x193005 => if x20 = true then ((spec_l7Begins.f k x192004 x193004).bind fun t193 => (if t193 = true then (some true) else ((spec_l7Begins.f k x193004 x192004).bind fun t194 => (some t194)))) else (if x192000 = x193000 then (if (x192004.length : Int) = (x193004.length : Int) then ((spec_l7Begins.f k x192004 x193004).bind fun t195 => (if t195 = true then (if x192001 = true then (some true) else (if x192002 = 0 then (some (x192001 == x193001 && (x192002 == x193002 && (x192003 == x193003)))) else (some true))) else (some false))) else (some false)) else (some false))
def spec_Refines.f (k : Nat) (a0_0 : Int) (a0_1 : Bool) (a0_2 : Int) (a0_3 : Int) (l0_4 : List Int) (a0_5 : Int) (a1_0 : Int) (a1_1 : Bool) (a1_2 : Int) (a1_3 : Int) (l1_4 : List Int) (a1_5 : Int) : Option (Bool) := if a0_0 = 7 then (some true) else (if a0_0 = 2 then (spec_Refines.j0 k true a0_0 a0_1 a0_2 a0_3 l0_4 a0_5 a1_0 a1_1 a1_2 a1_3 l1_4 a1_5) else (if a0_0 ≥ 3 then (spec_Refines.j0 k (decide (a0_0 ≤ 6)) a0_0 a0_1 a0_2 a0_3 l0_4 a0_5 a1_0 a1_1 a1_2 a1_3 l1_4 a1_5) else (spec_Refines.j0 k false a0_0 a0_1 a0_2 a0_3 l0_4 a0_5 a1_0 a1_1 a1_2 a1_3 l1_4 a1_5)))
theorem spec_Refines.mono_l : ∀ k, (∀ y0 y1 y2 y3 y4 y5 y6 y7 y8 y9 y10 y11 y12, LeO (spec_Refines.j0 k y0 y1 y2 y3 y4 y5 y6 y7 y8 y9 y10 y11 y12) (spec_Refines.j0 (k + 1) y0 y1 y2 y3 y4 y5 y6 y7 y8 y9 y10 y11 y12))
  | 0 => fun _ _ _ _ _ _ _ _ _ _ _ _ _ r h => by simp [spec_Refines.j0] at h
  | k + 1 => by
    have ih0 := spec_Refines.mono_l k
    · intro y0 y1 y2 y3 y4 y5 y6 y7 y8 y9 y10 y11 y12
      unfold spec_Refines.j0
      repeat' first
      | (with_reducible exact ih0 _ _ _ _ _ _ _ _ _ _ _ _ _)
      | (with_reducible exact spec_l7Begins.mono _ _ _)
      | (with_reducible exact LeO.refl _)
      | (with_reducible exact LeO.none _)
      | (with_reducible refine LeO.ite ?_ ?_)
      | (with_reducible refine LeO.bind ?_ (fun _ => ?_))
      | exact ih0 _ _ _ _ _ _ _ _ _ _ _ _ _
      | exact spec_l7Begins.mono _ _ _
      | exact LeO.none _
      | refine LeO.ite ?_ ?_
      | refine LeO.bind ?_ (fun _ => ?_)
theorem spec_Refines.mono : ∀ a0 a1 a2 a3 a4 a5 a6 a7 a8 a9 a10 a11 k, LeO (spec_Refines.f k a0 a1 a2 a3 a4 a5 a6 a7 a8 a9 a10 a11) (spec_Refines.f (k + 1) a0 a1 a2 a3 a4 a5 a6 a7 a8 a9 a10 a11) := by
  intro a0 a1 a2 a3 a4 a5 a6 a7 a8 a9 a10 a11 k
  have ih0 := spec_Refines.mono_l k
  unfold spec_Refines.f
  repeat' first
      | (with_reducible exact ih0 _ _ _ _ _ _ _ _ _ _ _ _ _)
      | (with_reducible exact spec_l7Begins.mono _ _ _)
      | (with_reducible exact LeO.refl _)
      | (with_reducible exact LeO.none _)
      | (with_reducible refine LeO.ite ?_ ?_)
      | (with_reducible refine LeO.bind ?_ (fun _ => ?_))
      | exact ih0 _ _ _ _ _ _ _ _ _ _ _ _ _
      | exact spec_l7Begins.mono _ _ _
      | exact LeO.none _
      | refine LeO.ite ?_ ?_
      | refine LeO.bind ?_ (fun _ => ?_)
set_option maxHeartbeats 8000000 in
set_option maxRecDepth 100000 in
theorem spec_Refines.calls (k : Nat) (a0_0 : Int) (a0_1 : Bool) (a0_2 : Int) (a0_3 : Int) (A0_4 : Option Addr) (c0_4 : Nat) (l0_4 : List Int) (a0_5 : Int) (a1_0 : Int) (a1_1 : Bool) (a1_2 : Int) (a1_3 : Int) (A1_4 : Option Addr) (c1_4 : Nat) (l1_4 : List Int) (a1_5 : Int) (r : Bool) (w : World) (hr0_4 : Kd.C (Kd.int .u64) w A0_4 l0_4.length l0_4) (hc0_4 : l0_4.length ≤ c0_4) (hr1_4 : Kd.C (Kd.int .u64) w A1_4 l1_4.length l1_4) (hc1_4 : l1_4.length ≤ c1_4) (h : spec_Refines.f k a0_0 a0_1 a0_2 a0_3 l0_4 a0_5 a1_0 a1_1 a1_2 a1_3 l1_4 a1_5 = some r) :
    Calls Try.prog 35 #[.agg #[.int .i64 a0_0, .bool a0_1, .int .i64 a0_2, .int .u64 a0_3, .slice A0_4 l0_4.length c0_4, .int .i64 a0_5], .agg #[.int .i64 a1_0, .bool a1_1, .int .i64 a1_2, .int .u64 a1_3, .slice A1_4 l1_4.length c1_4, .int .i64 a1_5]] w fun e w' => e = .returned (.bool r) ∧ Below w.heap.size w w' := by
  have hu53 := Try.underlying53
  have hu50 := Try.underlying50
  have HR0_4 := Aside0.mk hr0_4
  have HC0_4 := Aside0.mk hc0_4
  clear hr0_4 hc0_4
  have HR1_4 := Aside0.mk hr1_4
  have HC1_4 := Aside0.mk hc1_4
  clear hr1_4 hc1_4
  have HB := Aside0.mk (Below.refl w.heap.size w)
  have H : (if a0_0 = 7 then (some true) else (if a0_0 = 2 then (spec_Refines.j0 k true a0_0 a0_1 a0_2 a0_3 l0_4 a0_5 a1_0 a1_1 a1_2 a1_3 l1_4 a1_5) else (if a0_0 ≥ 3 then (spec_Refines.j0 k (decide (a0_0 ≤ 6)) a0_0 a0_1 a0_2 a0_3 l0_4 a0_5 a1_0 a1_1 a1_2 a1_3 l1_4 a1_5) else (spec_Refines.j0 k false a0_0 a0_1 a0_2 a0_3 l0_4 a0_5 a1_0 a1_1 a1_2 a1_3 l1_4 a1_5)))) = some r := h
  clear h
  by_cases c3 : a0_0 = 7
  · rw [if_pos c3] at H
    have c3b0 : (a0_0 == 7) = true := beq_iff_eq.mpr c3
    have c3b1 : (a0_0 != 7) = false := bne_eq_false_iff_eq.mpr c3
    clear c3
    obtain rfl := Option.some.inj H
    go_enter Try.func35, Try.ntmps35
    go_wp2_with (first | ((with_reducible refine gate_dst (N := 2) rfl ?_); (try (refine gate_guard (by rfl) ?_; dsimp only)); refine box_event ?hg (N := 2) ?hd (cs := #[.int .i64 a0_0, .bool a0_1, .int .i64 a0_2, .int .u64 a0_3, .slice A0_4 l0_4.length c0_4, .int .i64 a0_5]) (t := 53) ?hr ?_; (case hd => rfl); (case hg => rfl); (case hr => first | (go_simp; done) | (go_simp; rfl)); intro gb191 hg w4 hbox hb; have n0_ := Aside0.mk (below_step (by repeat (first | (with_reducible first | exact HB.out | apply below_alloc | apply pw_below_drewN | apply below_drew1) | exact HB.out)) hb); have n1_ := Aside0.mk (hbox); have n2_ := Aside0.mk ((by rw [hg]; exact (below_size (by repeat (first | (with_reducible first | exact HB.out | apply below_alloc | apply pw_below_drewN | apply below_drew1) | exact HB.out))) : w.heap.size ≤ gb191)); have n3_ := Aside0.mk ((by rw [hg]; exact (below_size (by repeat (first | (with_reducible first | exact HB.out | apply below_alloc | apply pw_below_drewN | apply below_drew1) | exact HB.out))) : w.heap.size ≤ gb191)); clear HB; have HB := n0_; have BK191 := n1_; have GW191 := n2_; have GE191 := n3_; clear n0_ n1_ n2_ n3_; clear hb hbox hg) | ((with_reducible refine gate_dst (N := 3) rfl ?_); (try (refine gate_guard (by rfl) ?_; dsimp only)); refine box_event ?hg (N := 3) ?hd (cs := #[.int .i64 a1_0, .bool a1_1, .int .i64 a1_2, .int .u64 a1_3, .slice A1_4 l1_4.length c1_4, .int .i64 a1_5]) (t := 53) ?hr ?_; (case hd => rfl); (case hg => rfl); (case hr => first | (go_simp; done) | (go_simp; rfl)); intro gb192 hg w5 hbox hb; have n0_ := Aside0.mk (blk_below (g := gb191) (o := .cells #[.int .i64 a0_0, .bool a0_1, .int .i64 a0_2, .int .u64 a0_3, .slice A0_4 l0_4.length c0_4, .int .i64 a0_5] 53 (0, 0)) (by (with_reducible repeat (first | refine blk_drewN ?_ _ | refine blk_drew ?_ | refine blk_alloc ?_ _)); exact BK191.out) hb); have n1_ := Aside0.mk (below_step (by repeat (first | (with_reducible first | exact HB.out | apply below_alloc | apply pw_below_drewN | apply below_drew1 | refine below_set ?_ GE191.out) | exact HB.out)) hb); have n2_ := Aside0.mk (hbox); have n3_ := Aside0.mk ((by rw [hg]; exact (below_size (by repeat (first | (with_reducible first | exact HB.out | apply below_alloc | apply pw_below_drewN | apply below_drew1 | refine below_set ?_ GE191.out) | exact HB.out))) : w.heap.size ≤ gb192)); have n4_ := Aside0.mk ((by rw [hg]; exact (below_size (by repeat (first | (with_reducible first | exact HB.out | apply below_alloc | apply pw_below_drewN | apply below_drew1 | refine below_set ?_ GE191.out) | exact HB.out))) : w.heap.size ≤ gb192)); have n5_ := Aside0.mk ((by rw [hg]; exact Nat.ne_of_lt (blk_lt (g := gb191) (o := .cells #[.int .i64 a0_0, .bool a0_1, .int .i64 a0_2, .int .u64 a0_3, .slice A0_4 l0_4.length c0_4, .int .i64 a0_5] 53 (0, 0)) (by (with_reducible repeat (first | refine blk_drewN ?_ _ | refine blk_drew ?_ | refine blk_alloc ?_ _)); exact BK191.out)) : gb191 ≠ gb192)); have n6_ := Aside0.mk ((by rw [hg]; exact Nat.ne_of_gt (blk_lt (g := gb191) (o := .cells #[.int .i64 a0_0, .bool a0_1, .int .i64 a0_2, .int .u64 a0_3, .slice A0_4 l0_4.length c0_4, .int .i64 a0_5] 53 (0, 0)) (by (with_reducible repeat (first | refine blk_drewN ?_ _ | refine blk_drew ?_ | refine blk_alloc ?_ _)); exact BK191.out)) : gb192 ≠ gb191)); clear BK191; clear HB; have BK191 := n0_; have HB := n1_; have BK192 := n2_; have GW192 := n3_; have GE192 := n4_; have NB191_192 := n5_; have NB192_191 := n6_; clear n0_ n1_ n2_ n3_ n4_ n5_ n6_; clear hb hbox hg; have hnb6 := NB191_192.out; have hnc6 := NB192_191.out; have hcz7_0 : w5.cell? ⟨gb191, 0, none⟩ = some (.int .i64 a0_0) := (blk_cell BK191.out 0).trans rfl; have hcz7_1 : w5.cell? ⟨gb191, 1, none⟩ = some (.bool a0_1) := (blk_cell BK191.out 1).trans rfl; have hcz7_2 : w5.cell? ⟨gb191, 2, none⟩ = some (.int .i64 a0_2) := (blk_cell BK191.out 2).trans rfl; have hcz7_3 : w5.cell? ⟨gb191, 3, none⟩ = some (.int .u64 a0_3) := (blk_cell BK191.out 3).trans rfl; have hcz7_4 : w5.cell? ⟨gb191, 4, none⟩ = some (.slice A0_4 l0_4.length c0_4) := (blk_cell BK191.out 4).trans rfl; have hcz7_5 : w5.cell? ⟨gb191, 5, none⟩ = some (.int .i64 a0_5) := (blk_cell BK191.out 5).trans rfl; have hfz7_0 := blk_frozen BK191.out 0; have hfz7_1 := blk_frozen BK191.out 1; have hfz7_2 := blk_frozen BK191.out 2; have hfz7_3 := blk_frozen BK191.out 3; have hfz7_4 := blk_frozen BK191.out 4; have hfz7_5 := blk_frozen BK191.out 5))
    go_ret
    exact ⟨by first | rfl | (simp [errW_none, errW_some] <;> rfl) | (simp [*, errW_none, errW_some] <;> rfl), by repeat (first | (with_reducible first | exact HB.out | apply below_alloc | apply pw_below_drewN | apply below_drew1 | refine below_set ?_ GE191.out | refine below_set ?_ GE192.out) | exact HB.out)⟩
  · rw [if_neg c3] at H
    have c3b0 : (a0_0 == 7) = false := beq_eq_false_iff_ne.mpr c3
    have c3b1 : (a0_0 != 7) = true := bne_iff_ne.mpr c3
    have HC8 := Aside0.mk H
    clear H
    go_enter Try.func35, Try.ntmps35
    go_upto_region 3 with (first | ((with_reducible refine gate_dst (N := 2) rfl ?_); (try (refine gate_guard (by rfl) ?_; dsimp only)); refine box_event ?hg (N := 2) ?hd (cs := #[.int .i64 a0_0, .bool a0_1, .int .i64 a0_2, .int .u64 a0_3, .slice A0_4 l0_4.length c0_4, .int .i64 a0_5]) (t := 53) ?hr ?_; (case hd => rfl); (case hg => rfl); (case hr => first | (go_simp; done) | (go_simp; rfl)); intro gb191 hg w9 hbox hb; have n0_ := Aside0.mk (below_step (by repeat (first | (with_reducible first | exact HB.out | apply below_alloc | apply pw_below_drewN | apply below_drew1) | exact HB.out)) hb); have n1_ := Aside0.mk (hbox); have n2_ := Aside0.mk ((by rw [hg]; exact (below_size (by repeat (first | (with_reducible first | exact HB.out | apply below_alloc | apply pw_below_drewN | apply below_drew1) | exact HB.out))) : w.heap.size ≤ gb191)); have n3_ := Aside0.mk ((by rw [hg]; exact (below_size (by repeat (first | (with_reducible first | exact HB.out | apply below_alloc | apply pw_below_drewN | apply below_drew1) | exact HB.out))) : w.heap.size ≤ gb191)); clear HB; have HB := n0_; have BK191 := n1_; have GW191 := n2_; have GE191 := n3_; clear n0_ n1_ n2_ n3_; clear hb hbox hg) | ((with_reducible refine gate_dst (N := 3) rfl ?_); (try (refine gate_guard (by rfl) ?_; dsimp only)); refine box_event ?hg (N := 3) ?hd (cs := #[.int .i64 a1_0, .bool a1_1, .int .i64 a1_2, .int .u64 a1_3, .slice A1_4 l1_4.length c1_4, .int .i64 a1_5]) (t := 53) ?hr ?_; (case hd => rfl); (case hg => rfl); (case hr => first | (go_simp; done) | (go_simp; rfl)); intro gb192 hg w10 hbox hb; have n0_ := Aside0.mk (blk_below (g := gb191) (o := .cells #[.int .i64 a0_0, .bool a0_1, .int .i64 a0_2, .int .u64 a0_3, .slice A0_4 l0_4.length c0_4, .int .i64 a0_5] 53 (0, 0)) (by (with_reducible repeat (first | refine blk_drewN ?_ _ | refine blk_drew ?_ | refine blk_alloc ?_ _)); exact BK191.out) hb); have n1_ := Aside0.mk (below_step (by repeat (first | (with_reducible first | exact HB.out | apply below_alloc | apply pw_below_drewN | apply below_drew1 | refine below_set ?_ GE191.out) | exact HB.out)) hb); have n2_ := Aside0.mk (hbox); have n3_ := Aside0.mk ((by rw [hg]; exact (below_size (by repeat (first | (with_reducible first | exact HB.out | apply below_alloc | apply pw_below_drewN | apply below_drew1 | refine below_set ?_ GE191.out) | exact HB.out))) : w.heap.size ≤ gb192)); have n4_ := Aside0.mk ((by rw [hg]; exact (below_size (by repeat (first | (with_reducible first | exact HB.out | apply below_alloc | apply pw_below_drewN | apply below_drew1 | refine below_set ?_ GE191.out) | exact HB.out))) : w.heap.size ≤ gb192)); have n5_ := Aside0.mk ((by rw [hg]; exact Nat.ne_of_lt (blk_lt (g := gb191) (o := .cells #[.int .i64 a0_0, .bool a0_1, .int .i64 a0_2, .int .u64 a0_3, .slice A0_4 l0_4.length c0_4, .int .i64 a0_5] 53 (0, 0)) (by (with_reducible repeat (first | refine blk_drewN ?_ _ | refine blk_drew ?_ | refine blk_alloc ?_ _)); exact BK191.out)) : gb191 ≠ gb192)); have n6_ := Aside0.mk ((by rw [hg]; exact Nat.ne_of_gt (blk_lt (g := gb191) (o := .cells #[.int .i64 a0_0, .bool a0_1, .int .i64 a0_2, .int .u64 a0_3, .slice A0_4 l0_4.length c0_4, .int .i64 a0_5] 53 (0, 0)) (by (with_reducible repeat (first | refine blk_drewN ?_ _ | refine blk_drew ?_ | refine blk_alloc ?_ _)); exact BK191.out)) : gb192 ≠ gb191)); clear BK191; clear HB; have BK191 := n0_; have HB := n1_; have BK192 := n2_; have GW192 := n3_; have GE192 := n4_; have NB191_192 := n5_; have NB192_191 := n6_; clear n0_ n1_ n2_ n3_ n4_ n5_ n6_; clear hb hbox hg; have hnb11 := NB191_192.out; have hnc11 := NB192_191.out; have hcz12_0 : w10.cell? ⟨gb191, 0, none⟩ = some (.int .i64 a0_0) := (blk_cell BK191.out 0).trans rfl; have hcz12_1 : w10.cell? ⟨gb191, 1, none⟩ = some (.bool a0_1) := (blk_cell BK191.out 1).trans rfl; have hcz12_2 : w10.cell? ⟨gb191, 2, none⟩ = some (.int .i64 a0_2) := (blk_cell BK191.out 2).trans rfl; have hcz12_3 : w10.cell? ⟨gb191, 3, none⟩ = some (.int .u64 a0_3) := (blk_cell BK191.out 3).trans rfl; have hcz12_4 : w10.cell? ⟨gb191, 4, none⟩ = some (.slice A0_4 l0_4.length c0_4) := (blk_cell BK191.out 4).trans rfl; have hcz12_5 : w10.cell? ⟨gb191, 5, none⟩ = some (.int .i64 a0_5) := (blk_cell BK191.out 5).trans rfl; have hfz12_0 := blk_frozen BK191.out 0; have hfz12_1 := blk_frozen BK191.out 1; have hfz12_2 := blk_frozen BK191.out 2; have hfz12_3 := blk_frozen BK191.out 3; have hfz12_4 := blk_frozen BK191.out 4; have hfz12_5 := blk_frozen BK191.out 5))
    (try simp only [Act.put, List.setIfInBounds_toArray, List.set_cons_zero, List.set_cons_succ])
    go_cut [20] (fun v20 wc => ∃ (kq : Nat) (x20_7 : Bool), v20 = .bool x20_7 ∧ Aside0 (spec_Refines.j0 kq x20_7 a0_0 a0_1 a0_2 a0_3 l0_4 a0_5 a1_0 a1_1 a1_2 a1_3 l1_4 a1_5 = some r) ∧ Aside0 (kq ≤ k) ∧ Aside0 (wc.heap[gb191]? = some (.cells #[.int .i64 a0_0, .bool a0_1, .int .i64 a0_2, .int .u64 a0_3, (.slice A0_4 l0_4.length c0_4), .int .i64 a0_5] 53 (0, 0))) ∧ Aside0 (wc.heap[gb192]? = some (.cells #[.int .i64 a1_0, .bool a1_1, .int .i64 a1_2, .int .u64 a1_3, (.slice A1_4 l1_4.length c1_4), .int .i64 a1_5] 53 (0, 0))) ∧ Aside0 (Below w.heap.size w wc))
    case first =>
      have H := HC8.out
      clear HC8
      by_cases c13 : a0_0 = 2
      · rw [if_pos c13] at H
        have c13b0 : (a0_0 == 2) = true := beq_iff_eq.mpr c13
        have c13b1 : (a0_0 != 2) = false := bne_eq_false_iff_eq.mpr c13
        clear c13
        (first | rw [c13b0] | (simp only [i64_w, i32_w]; rw [c13b0]) | skip)
        have H' := Aside0.mk H
        clear H
        have hnb14 := NB191_192.out
        have hnc14 := NB192_191.out
        have hcz15_0 : w10.cell? ⟨gb191, 0, none⟩ = some (.int .i64 a0_0) := (blk_cell BK191.out 0).trans rfl
        have hcz15_1 : w10.cell? ⟨gb191, 1, none⟩ = some (.bool a0_1) := (blk_cell BK191.out 1).trans rfl
        have hcz15_2 : w10.cell? ⟨gb191, 2, none⟩ = some (.int .i64 a0_2) := (blk_cell BK191.out 2).trans rfl
        have hcz15_3 : w10.cell? ⟨gb191, 3, none⟩ = some (.int .u64 a0_3) := (blk_cell BK191.out 3).trans rfl
        have hcz15_4 : w10.cell? ⟨gb191, 4, none⟩ = some (.slice A0_4 l0_4.length c0_4) := (blk_cell BK191.out 4).trans rfl
        have hcz15_5 : w10.cell? ⟨gb191, 5, none⟩ = some (.int .i64 a0_5) := (blk_cell BK191.out 5).trans rfl
        have hfz15_0 := blk_frozen BK191.out 0
        have hfz15_1 := blk_frozen BK191.out 1
        have hfz15_2 := blk_frozen BK191.out 2
        have hfz15_3 := blk_frozen BK191.out 3
        have hfz15_4 := blk_frozen BK191.out 4
        have hfz15_5 := blk_frozen BK191.out 5
        go_wp2
        go_meet
        case rel => exact ⟨_, (true), (by first | rfl | (simp; done) | (simp [*]; done)), H', ⟨by first | omega | exact Nat.le_refl _⟩, ⟨by (with_reducible repeat (first | refine blk_drewN ?_ _ | refine blk_drew ?_ | refine blk_alloc ?_ _)); exact BK191.out⟩, ⟨by (with_reducible repeat (first | refine blk_drewN ?_ _ | refine blk_drew ?_ | refine blk_alloc ?_ _)); exact BK192.out⟩, ⟨by repeat (first | (with_reducible first | exact HB.out | apply below_alloc | apply pw_below_drewN | apply below_drew1 | refine below_set ?_ GE191.out | refine below_set ?_ GE192.out) | exact HB.out)⟩⟩
      · rw [if_neg c13] at H
        have c13b0 : (a0_0 == 2) = false := beq_eq_false_iff_ne.mpr c13
        have c13b1 : (a0_0 != 2) = true := bne_iff_ne.mpr c13
        (first | rw [c13b0] | (simp only [i64_w, i32_w]; rw [c13b0]) | skip)
        by_cases c16 : a0_0 ≥ 3
        · rw [if_pos c16] at H
          have c16b0 : decide (3 ≤ a0_0) = true := decide_eq_true c16
          clear c16
          have H' := Aside0.mk H
          clear H
          have hnb17 := NB191_192.out
          have hnc17 := NB192_191.out
          have hcz18_0 : w10.cell? ⟨gb191, 0, none⟩ = some (.int .i64 a0_0) := (blk_cell BK191.out 0).trans rfl
          have hcz18_1 : w10.cell? ⟨gb191, 1, none⟩ = some (.bool a0_1) := (blk_cell BK191.out 1).trans rfl
          have hcz18_2 : w10.cell? ⟨gb191, 2, none⟩ = some (.int .i64 a0_2) := (blk_cell BK191.out 2).trans rfl
          have hcz18_3 : w10.cell? ⟨gb191, 3, none⟩ = some (.int .u64 a0_3) := (blk_cell BK191.out 3).trans rfl
          have hcz18_4 : w10.cell? ⟨gb191, 4, none⟩ = some (.slice A0_4 l0_4.length c0_4) := (blk_cell BK191.out 4).trans rfl
          have hcz18_5 : w10.cell? ⟨gb191, 5, none⟩ = some (.int .i64 a0_5) := (blk_cell BK191.out 5).trans rfl
          have hfz18_0 := blk_frozen BK191.out 0
          have hfz18_1 := blk_frozen BK191.out 1
          have hfz18_2 := blk_frozen BK191.out 2
          have hfz18_3 := blk_frozen BK191.out 3
          have hfz18_4 := blk_frozen BK191.out 4
          have hfz18_5 := blk_frozen BK191.out 5
          go_wp2
          go_meet
          case rel => exact ⟨_, (decide (a0_0 ≤ 6)), (by first | rfl | (simp; done) | (simp [*]; done)), H', ⟨by first | omega | exact Nat.le_refl _⟩, ⟨by (with_reducible repeat (first | refine blk_drewN ?_ _ | refine blk_drew ?_ | refine blk_alloc ?_ _)); exact BK191.out⟩, ⟨by (with_reducible repeat (first | refine blk_drewN ?_ _ | refine blk_drew ?_ | refine blk_alloc ?_ _)); exact BK192.out⟩, ⟨by repeat (first | (with_reducible first | exact HB.out | apply below_alloc | apply pw_below_drewN | apply below_drew1 | refine below_set ?_ GE191.out | refine below_set ?_ GE192.out) | exact HB.out)⟩⟩
        · rw [if_neg c16] at H
          have c16b0 : decide (3 ≤ a0_0) = false := decide_eq_false c16
          clear c16
          have H' := Aside0.mk H
          clear H
          have hnb19 := NB191_192.out
          have hnc19 := NB192_191.out
          have hcz20_0 : w10.cell? ⟨gb191, 0, none⟩ = some (.int .i64 a0_0) := (blk_cell BK191.out 0).trans rfl
          have hcz20_1 : w10.cell? ⟨gb191, 1, none⟩ = some (.bool a0_1) := (blk_cell BK191.out 1).trans rfl
          have hcz20_2 : w10.cell? ⟨gb191, 2, none⟩ = some (.int .i64 a0_2) := (blk_cell BK191.out 2).trans rfl
          have hcz20_3 : w10.cell? ⟨gb191, 3, none⟩ = some (.int .u64 a0_3) := (blk_cell BK191.out 3).trans rfl
          have hcz20_4 : w10.cell? ⟨gb191, 4, none⟩ = some (.slice A0_4 l0_4.length c0_4) := (blk_cell BK191.out 4).trans rfl
          have hcz20_5 : w10.cell? ⟨gb191, 5, none⟩ = some (.int .i64 a0_5) := (blk_cell BK191.out 5).trans rfl
          have hfz20_0 := blk_frozen BK191.out 0
          have hfz20_1 := blk_frozen BK191.out 1
          have hfz20_2 := blk_frozen BK191.out 2
          have hfz20_3 := blk_frozen BK191.out 3
          have hfz20_4 := blk_frozen BK191.out 4
          have hfz20_5 := blk_frozen BK191.out 5
          go_wp2
          go_meet
          case rel => exact ⟨_, (false), (by first | rfl | (simp; done) | (simp [*]; done)), H', ⟨by first | omega | exact Nat.le_refl _⟩, ⟨by (with_reducible repeat (first | refine blk_drewN ?_ _ | refine blk_drew ?_ | refine blk_alloc ?_ _)); exact BK191.out⟩, ⟨by (with_reducible repeat (first | refine blk_drewN ?_ _ | refine blk_drew ?_ | refine blk_alloc ?_ _)); exact BK192.out⟩, ⟨by repeat (first | (with_reducible first | exact HB.out | apply below_alloc | apply pw_below_drewN | apply below_drew1 | refine below_set ?_ GE191.out | refine below_set ?_ GE192.out) | exact HB.out)⟩⟩
    case rest =>
      clear HC8
      try clear c1
      try clear p2
      try clear c3
      try clear c3b0
      try clear c3b1
      try clear c6
      try clear c11
      try clear c13
      try clear c13b0
      try clear c13b1
      try clear c14
      try clear c16
      try clear c16b0
      try clear c17
      try clear c19
      try clear hcz12_0
      try clear hcz12_1
      try clear hcz12_2
      try clear hcz12_3
      try clear hcz12_4
      try clear hcz12_5
      try clear hcz15_0
      try clear hcz15_1
      try clear hcz15_2
      try clear hcz15_3
      try clear hcz15_4
      try clear hcz15_5
      try clear hcz18_0
      try clear hcz18_1
      try clear hcz18_2
      try clear hcz18_3
      try clear hcz18_4
      try clear hcz18_5
      try clear hcz20_0
      try clear hcz20_1
      try clear hcz20_2
      try clear hcz20_3
      try clear hcz20_4
      try clear hcz20_5
      try clear hcz7_0
      try clear hcz7_1
      try clear hcz7_2
      try clear hcz7_3
      try clear hcz7_4
      try clear hcz7_5
      try clear hfz12_0
      try clear hfz12_1
      try clear hfz12_2
      try clear hfz12_3
      try clear hfz12_4
      try clear hfz12_5
      try clear hfz15_0
      try clear hfz15_1
      try clear hfz15_2
      try clear hfz15_3
      try clear hfz15_4
      try clear hfz15_5
      try clear hfz18_0
      try clear hfz18_1
      try clear hfz18_2
      try clear hfz18_3
      try clear hfz18_4
      try clear hfz18_5
      try clear hfz20_0
      try clear hfz20_1
      try clear hfz20_2
      try clear hfz20_3
      try clear hfz20_4
      try clear hfz20_5
      try clear hfz7_0
      try clear hfz7_1
      try clear hfz7_2
      try clear hfz7_3
      try clear hfz7_4
      try clear hfz7_5
      obtain ⟨kq, x20_7, rfl, HA, HJ7, BK191, BK192, HB⟩ := hcut
      cases kq with
      | zero => exact absurd HA.out (by simp [spec_Refines.j0])
      | succ kj7 =>
        have H := HA.out
        clear HA
        simp only [spec_Refines.j0] at H
        by_cases c21 : x20_7 = true
        · subst c21
          have H1 : ((spec_l7Begins.f kj7 l0_4 l1_4).bind fun t193 => (if t193 = true then (some true) else ((spec_l7Begins.f kj7 l1_4 l0_4).bind fun t194 => (some t194)))) = some r := by rw [if_pos rfl] at H; exact H
          clear H
          have H := H1
          clear H1
          replace H := Option.bind_eq_some_iff.mp H
          obtain ⟨t193, A220, H⟩ := H
          replace H : (if t193 = true then (some true) else ((spec_l7Begins.f kj7 l1_4 l0_4).bind fun t194 => (some t194))) = some r := H
          have A22 := Aside0.mk A220
          clear A220
          by_cases c23 : t193 = true
          · subst c23
            have H1 : (some true) = some r := by rw [if_pos rfl] at H; exact H
            clear H
            have H := H1
            clear H1
            obtain rfl := Option.some.inj H
            have hnb24 := NB191_192.out
            have hnc24 := NB192_191.out
            have hcz25_0 : wc.cell? ⟨gb191, 0, none⟩ = some (.int .i64 a0_0) := (blk_cell BK191.out 0).trans rfl
            have hcz25_1 : wc.cell? ⟨gb191, 1, none⟩ = some (.bool a0_1) := (blk_cell BK191.out 1).trans rfl
            have hcz25_2 : wc.cell? ⟨gb191, 2, none⟩ = some (.int .i64 a0_2) := (blk_cell BK191.out 2).trans rfl
            have hcz25_3 : wc.cell? ⟨gb191, 3, none⟩ = some (.int .u64 a0_3) := (blk_cell BK191.out 3).trans rfl
            have hcz25_4 : wc.cell? ⟨gb191, 4, none⟩ = some (.slice A0_4 l0_4.length c0_4) := (blk_cell BK191.out 4).trans rfl
            have hcz25_5 : wc.cell? ⟨gb191, 5, none⟩ = some (.int .i64 a0_5) := (blk_cell BK191.out 5).trans rfl
            have hfz25_0 := blk_frozen BK191.out 0
            have hfz25_1 := blk_frozen BK191.out 1
            have hfz25_2 := blk_frozen BK191.out 2
            have hfz25_3 := blk_frozen BK191.out 3
            have hfz25_4 := blk_frozen BK191.out 4
            have hfz25_5 := blk_frozen BK191.out 5
            have hcz26_0 : wc.cell? ⟨gb192, 0, none⟩ = some (.int .i64 a1_0) := (blk_cell BK192.out 0).trans rfl
            have hcz26_1 : wc.cell? ⟨gb192, 1, none⟩ = some (.bool a1_1) := (blk_cell BK192.out 1).trans rfl
            have hcz26_2 : wc.cell? ⟨gb192, 2, none⟩ = some (.int .i64 a1_2) := (blk_cell BK192.out 2).trans rfl
            have hcz26_3 : wc.cell? ⟨gb192, 3, none⟩ = some (.int .u64 a1_3) := (blk_cell BK192.out 3).trans rfl
            have hcz26_4 : wc.cell? ⟨gb192, 4, none⟩ = some (.slice A1_4 l1_4.length c1_4) := (blk_cell BK192.out 4).trans rfl
            have hcz26_5 : wc.cell? ⟨gb192, 5, none⟩ = some (.int .i64 a1_5) := (blk_cell BK192.out 5).trans rfl
            have hfz26_0 := blk_frozen BK192.out 0
            have hfz26_1 := blk_frozen BK192.out 1
            have hfz26_2 := blk_frozen BK192.out 2
            have hfz26_3 := blk_frozen BK192.out 3
            have hfz26_4 := blk_frozen BK192.out 4
            have hfz26_5 := blk_frozen BK192.out 5
            go_wp2_with (first | ((with_reducible refine gate_callee (f := 81) rfl ?_); refine goesL_ (some 25) rfl rfl Try.func81 (by kernel_rfl) rfl #[.slice A0_4 l0_4.length c0_4, .slice A1_4 l1_4.length c1_4] rfl (by (try simp only [List.map_toArray, List.map_cons, List.map_nil]); first | done | rfl | (simp only [List.length_drop, List.length_take]; rfl)) ?_; (with_reducible refine (spec_l7Begins.calls kj7 _ _ l0_4 _ _ l1_4 true _ ?side1 ?side2 ?side3 ?side4 A22.out).mono ?_); (case side1 => repeat (first | exact (Kd.C_below HR0_4.out HB.out) | (with_reducible refine Kd.C_alloc ?_ _) | (with_reducible refine Kd.C_drewN ?_ _) | (with_reducible refine Kd.C_drew ?_))); (case side2 => exact HC0_4.out); (case side3 => repeat (first | exact (Kd.C_below HR1_4.out HB.out) | (with_reducible refine Kd.C_alloc ?_ _) | (with_reducible refine Kd.C_drewN ?_ _) | (with_reducible refine Kd.C_drew ?_))); (case side4 => exact HC1_4.out); rintro e w' ⟨rfl, ⟨nd, rfl⟩⟩; refine ⟨_, rfl, ?_⟩))
            go_ret
            exact ⟨by first | rfl | (simp [errW_none, errW_some] <;> rfl) | (simp [*, errW_none, errW_some] <;> rfl), by repeat (first | (with_reducible first | exact HB.out | apply below_alloc | apply pw_below_drewN | apply below_drew1 | refine below_set ?_ GE191.out | refine below_set ?_ GE192.out) | exact HB.out)⟩
          · replace c23 := Bool.eq_false_iff.mpr c23
            subst c23
            have H1 : ((spec_l7Begins.f kj7 l1_4 l0_4).bind fun t194 => (some t194)) = some r := by rw [if_neg (show ¬ (false = true) by decide)] at H; exact H
            clear H
            have H := H1
            clear H1
            replace H := Option.bind_eq_some_iff.mp H
            obtain ⟨t194, A270, H⟩ := H
            replace H : (some t194) = some r := H
            have A27 := Aside0.mk A270
            clear A270
            obtain rfl := Option.some.inj H
            have hnb28 := NB191_192.out
            have hnc28 := NB192_191.out
            have hcz29_0 : wc.cell? ⟨gb191, 0, none⟩ = some (.int .i64 a0_0) := (blk_cell BK191.out 0).trans rfl
            have hcz29_1 : wc.cell? ⟨gb191, 1, none⟩ = some (.bool a0_1) := (blk_cell BK191.out 1).trans rfl
            have hcz29_2 : wc.cell? ⟨gb191, 2, none⟩ = some (.int .i64 a0_2) := (blk_cell BK191.out 2).trans rfl
            have hcz29_3 : wc.cell? ⟨gb191, 3, none⟩ = some (.int .u64 a0_3) := (blk_cell BK191.out 3).trans rfl
            have hcz29_4 : wc.cell? ⟨gb191, 4, none⟩ = some (.slice A0_4 l0_4.length c0_4) := (blk_cell BK191.out 4).trans rfl
            have hcz29_5 : wc.cell? ⟨gb191, 5, none⟩ = some (.int .i64 a0_5) := (blk_cell BK191.out 5).trans rfl
            have hfz29_0 := blk_frozen BK191.out 0
            have hfz29_1 := blk_frozen BK191.out 1
            have hfz29_2 := blk_frozen BK191.out 2
            have hfz29_3 := blk_frozen BK191.out 3
            have hfz29_4 := blk_frozen BK191.out 4
            have hfz29_5 := blk_frozen BK191.out 5
            have hcz30_0 : wc.cell? ⟨gb192, 0, none⟩ = some (.int .i64 a1_0) := (blk_cell BK192.out 0).trans rfl
            have hcz30_1 : wc.cell? ⟨gb192, 1, none⟩ = some (.bool a1_1) := (blk_cell BK192.out 1).trans rfl
            have hcz30_2 : wc.cell? ⟨gb192, 2, none⟩ = some (.int .i64 a1_2) := (blk_cell BK192.out 2).trans rfl
            have hcz30_3 : wc.cell? ⟨gb192, 3, none⟩ = some (.int .u64 a1_3) := (blk_cell BK192.out 3).trans rfl
            have hcz30_4 : wc.cell? ⟨gb192, 4, none⟩ = some (.slice A1_4 l1_4.length c1_4) := (blk_cell BK192.out 4).trans rfl
            have hcz30_5 : wc.cell? ⟨gb192, 5, none⟩ = some (.int .i64 a1_5) := (blk_cell BK192.out 5).trans rfl
            have hfz30_0 := blk_frozen BK192.out 0
            have hfz30_1 := blk_frozen BK192.out 1
            have hfz30_2 := blk_frozen BK192.out 2
            have hfz30_3 := blk_frozen BK192.out 3
            have hfz30_4 := blk_frozen BK192.out 4
            have hfz30_5 := blk_frozen BK192.out 5
            go_wp2_with (first | ((with_reducible refine gate_callee (f := 81) rfl ?_); refine goesL_ (some 25) rfl rfl Try.func81 (by kernel_rfl) rfl #[.slice A0_4 l0_4.length c0_4, .slice A1_4 l1_4.length c1_4] rfl (by (try simp only [List.map_toArray, List.map_cons, List.map_nil]); first | done | rfl | (simp only [List.length_drop, List.length_take]; rfl)) ?_; (with_reducible refine (spec_l7Begins.calls kj7 _ _ l0_4 _ _ l1_4 false _ ?side1 ?side2 ?side3 ?side4 A22.out).mono ?_); (case side1 => repeat (first | exact (Kd.C_below HR0_4.out HB.out) | (with_reducible refine Kd.C_alloc ?_ _) | (with_reducible refine Kd.C_drewN ?_ _) | (with_reducible refine Kd.C_drew ?_))); (case side2 => exact HC0_4.out); (case side3 => repeat (first | exact (Kd.C_below HR1_4.out HB.out) | (with_reducible refine Kd.C_alloc ?_ _) | (with_reducible refine Kd.C_drewN ?_ _) | (with_reducible refine Kd.C_drew ?_))); (case side4 => exact HC1_4.out); rintro e w' ⟨rfl, ⟨nd, rfl⟩⟩; refine ⟨_, rfl, ?_⟩) | (go_at_call 81; (with_reducible refine (spec_l7Begins.calls kj7 _ _ l1_4 _ _ l0_4 t194 _ ?side1 ?side2 ?side3 ?side4 A27.out).mono ?_); (case side1 => repeat (first | exact (Kd.C_below HR1_4.out (by repeat (first | (with_reducible first | exact HB.out | apply below_alloc | apply pw_below_drewN | apply below_drew1 | refine below_set ?_ GE191.out | refine below_set ?_ GE192.out) | exact HB.out))) | (with_reducible refine Kd.C_alloc ?_ _) | (with_reducible refine Kd.C_drewN ?_ _) | (with_reducible refine Kd.C_drew ?_))); (case side2 => exact HC1_4.out); (case side3 => repeat (first | exact (Kd.C_below HR0_4.out (by repeat (first | (with_reducible first | exact HB.out | apply below_alloc | apply pw_below_drewN | apply below_drew1 | refine below_set ?_ GE191.out | refine below_set ?_ GE192.out) | exact HB.out))) | (with_reducible refine Kd.C_alloc ?_ _) | (with_reducible refine Kd.C_drewN ?_ _) | (with_reducible refine Kd.C_drew ?_))); (case side4 => exact HC0_4.out); rintro e w' ⟨rfl, ⟨nd, rfl⟩⟩))
            go_ret
            exact ⟨by first | rfl | (simp [errW_none, errW_some] <;> rfl) | (simp [*, errW_none, errW_some] <;> rfl), by repeat (first | (with_reducible first | exact HB.out | apply below_alloc | apply pw_below_drewN | apply below_drew1 | refine below_set ?_ GE191.out | refine below_set ?_ GE192.out) | exact HB.out)⟩
        · replace c21 := Bool.eq_false_iff.mpr c21
          subst c21
          have H1 : (if a0_0 = a1_0 then (if (l0_4.length : Int) = (l1_4.length : Int) then ((spec_l7Begins.f kj7 l0_4 l1_4).bind fun t195 => (if t195 = true then (if a0_1 = true then (some true) else (if a0_2 = 0 then (some (a0_1 == a1_1 && (a0_2 == a1_2 && (a0_3 == a1_3)))) else (some true))) else (some false))) else (some false)) else (some false)) = some r := by rw [if_neg (show ¬ (false = true) by decide)] at H; exact H
          clear H
          have H := H1
          clear H1
          by_cases c31 : a0_0 = a1_0
          · rw [if_pos c31] at H
            have c31b0 : (a0_0 == a1_0) = true := beq_iff_eq.mpr c31
            have c31b1 : (a0_0 != a1_0) = false := bne_eq_false_iff_eq.mpr c31
            clear c31
            by_cases c32 : (l0_4.length : Int) = (l1_4.length : Int)
            · rw [if_pos c32] at H
              have c32b0 : ((l0_4.length : Int) == (l1_4.length : Int)) = true := beq_iff_eq.mpr c32
              have c32b1 : ((l0_4.length : Int) != (l1_4.length : Int)) = false := bne_eq_false_iff_eq.mpr c32
              have c32b2 : (l0_4.length == l1_4.length) = true := by first | simpa using c32 | (simp at c32 ⊢; omega)
              clear c32
              replace H := Option.bind_eq_some_iff.mp H
              obtain ⟨t195, A330, H⟩ := H
              replace H : (if t195 = true then (if a0_1 = true then (some true) else (if a0_2 = 0 then (some (a0_1 == a1_1 && (a0_2 == a1_2 && (a0_3 == a1_3)))) else (some true))) else (some false)) = some r := H
              have A33 := Aside0.mk A330
              clear A330
              by_cases c34 : t195 = true
              · subst c34
                have H1 : (if a0_1 = true then (some true) else (if a0_2 = 0 then (some (a0_1 == a1_1 && (a0_2 == a1_2 && (a0_3 == a1_3)))) else (some true))) = some r := by rw [if_pos rfl] at H; exact H
                clear H
                have H := H1
                clear H1
                by_cases c35 : a0_1 = true
                · subst c35
                  have H1 : (some true) = some r := by rw [if_pos rfl] at H; exact H
                  clear H
                  have H := H1
                  clear H1
                  obtain rfl := Option.some.inj H
                  have hnb36 := NB191_192.out
                  have hnc36 := NB192_191.out
                  have hcz37_0 : wc.cell? ⟨gb191, 0, none⟩ = some (.int .i64 a0_0) := (blk_cell BK191.out 0).trans rfl
                  have hcz37_1 : wc.cell? ⟨gb191, 1, none⟩ = some (.bool true) := (blk_cell BK191.out 1).trans rfl
                  have hcz37_2 : wc.cell? ⟨gb191, 2, none⟩ = some (.int .i64 a0_2) := (blk_cell BK191.out 2).trans rfl
                  have hcz37_3 : wc.cell? ⟨gb191, 3, none⟩ = some (.int .u64 a0_3) := (blk_cell BK191.out 3).trans rfl
                  have hcz37_4 : wc.cell? ⟨gb191, 4, none⟩ = some (.slice A0_4 l0_4.length c0_4) := (blk_cell BK191.out 4).trans rfl
                  have hcz37_5 : wc.cell? ⟨gb191, 5, none⟩ = some (.int .i64 a0_5) := (blk_cell BK191.out 5).trans rfl
                  have hfz37_0 := blk_frozen BK191.out 0
                  have hfz37_1 := blk_frozen BK191.out 1
                  have hfz37_2 := blk_frozen BK191.out 2
                  have hfz37_3 := blk_frozen BK191.out 3
                  have hfz37_4 := blk_frozen BK191.out 4
                  have hfz37_5 := blk_frozen BK191.out 5
                  have hcz38_0 : wc.cell? ⟨gb192, 0, none⟩ = some (.int .i64 a1_0) := (blk_cell BK192.out 0).trans rfl
                  have hcz38_1 : wc.cell? ⟨gb192, 1, none⟩ = some (.bool a1_1) := (blk_cell BK192.out 1).trans rfl
                  have hcz38_2 : wc.cell? ⟨gb192, 2, none⟩ = some (.int .i64 a1_2) := (blk_cell BK192.out 2).trans rfl
                  have hcz38_3 : wc.cell? ⟨gb192, 3, none⟩ = some (.int .u64 a1_3) := (blk_cell BK192.out 3).trans rfl
                  have hcz38_4 : wc.cell? ⟨gb192, 4, none⟩ = some (.slice A1_4 l1_4.length c1_4) := (blk_cell BK192.out 4).trans rfl
                  have hcz38_5 : wc.cell? ⟨gb192, 5, none⟩ = some (.int .i64 a1_5) := (blk_cell BK192.out 5).trans rfl
                  have hfz38_0 := blk_frozen BK192.out 0
                  have hfz38_1 := blk_frozen BK192.out 1
                  have hfz38_2 := blk_frozen BK192.out 2
                  have hfz38_3 := blk_frozen BK192.out 3
                  have hfz38_4 := blk_frozen BK192.out 4
                  have hfz38_5 := blk_frozen BK192.out 5
                  go_wp2_with (first | (go_at_call 81; (with_reducible refine (spec_l7Begins.calls kj7 _ _ l0_4 _ _ l1_4 true _ ?side1 ?side2 ?side3 ?side4 A33.out).mono ?_); (case side1 => repeat (first | exact (Kd.C_below HR0_4.out HB.out) | (with_reducible refine Kd.C_alloc ?_ _) | (with_reducible refine Kd.C_drewN ?_ _) | (with_reducible refine Kd.C_drew ?_))); (case side2 => exact HC0_4.out); (case side3 => repeat (first | exact (Kd.C_below HR1_4.out HB.out) | (with_reducible refine Kd.C_alloc ?_ _) | (with_reducible refine Kd.C_drewN ?_ _) | (with_reducible refine Kd.C_drew ?_))); (case side4 => exact HC1_4.out); rintro e w' ⟨rfl, ⟨nd, rfl⟩⟩))
                  go_ret
                  exact ⟨by first | rfl | (simp [errW_none, errW_some] <;> rfl) | (simp [*, errW_none, errW_some] <;> rfl), by repeat (first | (with_reducible first | exact HB.out | apply below_alloc | apply pw_below_drewN | apply below_drew1 | refine below_set ?_ GE191.out | refine below_set ?_ GE192.out) | exact HB.out)⟩
                · replace c35 := Bool.eq_false_iff.mpr c35
                  subst c35
                  have H1 : (if a0_2 = 0 then (some (false == a1_1 && (a0_2 == a1_2 && (a0_3 == a1_3)))) else (some true)) = some r := by rw [if_neg (show ¬ (false = true) by decide)] at H; exact H
                  clear H
                  have H := H1
                  clear H1
                  by_cases c39 : a0_2 = 0
                  · rw [if_pos c39] at H
                    have c39b0 : (a0_2 == 0) = true := beq_iff_eq.mpr c39
                    have c39b1 : (a0_2 != 0) = false := bne_eq_false_iff_eq.mpr c39
                    clear c39
                    obtain rfl := Option.some.inj H
                    have hnb40 := NB191_192.out
                    have hnc40 := NB192_191.out
                    have hcz41_0 : wc.cell? ⟨gb191, 0, none⟩ = some (.int .i64 a0_0) := (blk_cell BK191.out 0).trans rfl
                    have hcz41_1 : wc.cell? ⟨gb191, 1, none⟩ = some (.bool false) := (blk_cell BK191.out 1).trans rfl
                    have hcz41_2 : wc.cell? ⟨gb191, 2, none⟩ = some (.int .i64 a0_2) := (blk_cell BK191.out 2).trans rfl
                    have hcz41_3 : wc.cell? ⟨gb191, 3, none⟩ = some (.int .u64 a0_3) := (blk_cell BK191.out 3).trans rfl
                    have hcz41_4 : wc.cell? ⟨gb191, 4, none⟩ = some (.slice A0_4 l0_4.length c0_4) := (blk_cell BK191.out 4).trans rfl
                    have hcz41_5 : wc.cell? ⟨gb191, 5, none⟩ = some (.int .i64 a0_5) := (blk_cell BK191.out 5).trans rfl
                    have hfz41_0 := blk_frozen BK191.out 0
                    have hfz41_1 := blk_frozen BK191.out 1
                    have hfz41_2 := blk_frozen BK191.out 2
                    have hfz41_3 := blk_frozen BK191.out 3
                    have hfz41_4 := blk_frozen BK191.out 4
                    have hfz41_5 := blk_frozen BK191.out 5
                    have hcz42_0 : wc.cell? ⟨gb192, 0, none⟩ = some (.int .i64 a1_0) := (blk_cell BK192.out 0).trans rfl
                    have hcz42_1 : wc.cell? ⟨gb192, 1, none⟩ = some (.bool a1_1) := (blk_cell BK192.out 1).trans rfl
                    have hcz42_2 : wc.cell? ⟨gb192, 2, none⟩ = some (.int .i64 a1_2) := (blk_cell BK192.out 2).trans rfl
                    have hcz42_3 : wc.cell? ⟨gb192, 3, none⟩ = some (.int .u64 a1_3) := (blk_cell BK192.out 3).trans rfl
                    have hcz42_4 : wc.cell? ⟨gb192, 4, none⟩ = some (.slice A1_4 l1_4.length c1_4) := (blk_cell BK192.out 4).trans rfl
                    have hcz42_5 : wc.cell? ⟨gb192, 5, none⟩ = some (.int .i64 a1_5) := (blk_cell BK192.out 5).trans rfl
                    have hfz42_0 := blk_frozen BK192.out 0
                    have hfz42_1 := blk_frozen BK192.out 1
                    have hfz42_2 := blk_frozen BK192.out 2
                    have hfz42_3 := blk_frozen BK192.out 3
                    have hfz42_4 := blk_frozen BK192.out 4
                    have hfz42_5 := blk_frozen BK192.out 5
                    go_wp2_with (first | (go_at_call 81; (with_reducible refine (spec_l7Begins.calls kj7 _ _ l0_4 _ _ l1_4 true _ ?side1 ?side2 ?side3 ?side4 A33.out).mono ?_); (case side1 => repeat (first | exact (Kd.C_below HR0_4.out HB.out) | (with_reducible refine Kd.C_alloc ?_ _) | (with_reducible refine Kd.C_drewN ?_ _) | (with_reducible refine Kd.C_drew ?_))); (case side2 => exact HC0_4.out); (case side3 => repeat (first | exact (Kd.C_below HR1_4.out HB.out) | (with_reducible refine Kd.C_alloc ?_ _) | (with_reducible refine Kd.C_drewN ?_ _) | (with_reducible refine Kd.C_drew ?_))); (case side4 => exact HC1_4.out); rintro e w' ⟨rfl, ⟨nd, rfl⟩⟩))
                    go_ret
                    exact ⟨by first | rfl | (simp [errW_none, errW_some] <;> rfl) | (simp [*, errW_none, errW_some] <;> rfl), by repeat (first | (with_reducible first | exact HB.out | apply below_alloc | apply pw_below_drewN | apply below_drew1 | refine below_set ?_ GE191.out | refine below_set ?_ GE192.out) | exact HB.out)⟩
                  · rw [if_neg c39] at H
                    have c39b0 : (a0_2 == 0) = false := beq_eq_false_iff_ne.mpr c39
                    have c39b1 : (a0_2 != 0) = true := bne_iff_ne.mpr c39
                    obtain rfl := Option.some.inj H
                    have hnb43 := NB191_192.out
                    have hnc43 := NB192_191.out
                    have hcz44_0 : wc.cell? ⟨gb191, 0, none⟩ = some (.int .i64 a0_0) := (blk_cell BK191.out 0).trans rfl
                    have hcz44_1 : wc.cell? ⟨gb191, 1, none⟩ = some (.bool false) := (blk_cell BK191.out 1).trans rfl
                    have hcz44_2 : wc.cell? ⟨gb191, 2, none⟩ = some (.int .i64 a0_2) := (blk_cell BK191.out 2).trans rfl
                    have hcz44_3 : wc.cell? ⟨gb191, 3, none⟩ = some (.int .u64 a0_3) := (blk_cell BK191.out 3).trans rfl
                    have hcz44_4 : wc.cell? ⟨gb191, 4, none⟩ = some (.slice A0_4 l0_4.length c0_4) := (blk_cell BK191.out 4).trans rfl
                    have hcz44_5 : wc.cell? ⟨gb191, 5, none⟩ = some (.int .i64 a0_5) := (blk_cell BK191.out 5).trans rfl
                    have hfz44_0 := blk_frozen BK191.out 0
                    have hfz44_1 := blk_frozen BK191.out 1
                    have hfz44_2 := blk_frozen BK191.out 2
                    have hfz44_3 := blk_frozen BK191.out 3
                    have hfz44_4 := blk_frozen BK191.out 4
                    have hfz44_5 := blk_frozen BK191.out 5
                    have hcz45_0 : wc.cell? ⟨gb192, 0, none⟩ = some (.int .i64 a1_0) := (blk_cell BK192.out 0).trans rfl
                    have hcz45_1 : wc.cell? ⟨gb192, 1, none⟩ = some (.bool a1_1) := (blk_cell BK192.out 1).trans rfl
                    have hcz45_2 : wc.cell? ⟨gb192, 2, none⟩ = some (.int .i64 a1_2) := (blk_cell BK192.out 2).trans rfl
                    have hcz45_3 : wc.cell? ⟨gb192, 3, none⟩ = some (.int .u64 a1_3) := (blk_cell BK192.out 3).trans rfl
                    have hcz45_4 : wc.cell? ⟨gb192, 4, none⟩ = some (.slice A1_4 l1_4.length c1_4) := (blk_cell BK192.out 4).trans rfl
                    have hcz45_5 : wc.cell? ⟨gb192, 5, none⟩ = some (.int .i64 a1_5) := (blk_cell BK192.out 5).trans rfl
                    have hfz45_0 := blk_frozen BK192.out 0
                    have hfz45_1 := blk_frozen BK192.out 1
                    have hfz45_2 := blk_frozen BK192.out 2
                    have hfz45_3 := blk_frozen BK192.out 3
                    have hfz45_4 := blk_frozen BK192.out 4
                    have hfz45_5 := blk_frozen BK192.out 5
                    go_wp2_with (first | (go_at_call 81; (with_reducible refine (spec_l7Begins.calls kj7 _ _ l0_4 _ _ l1_4 true _ ?side1 ?side2 ?side3 ?side4 A33.out).mono ?_); (case side1 => repeat (first | exact (Kd.C_below HR0_4.out HB.out) | (with_reducible refine Kd.C_alloc ?_ _) | (with_reducible refine Kd.C_drewN ?_ _) | (with_reducible refine Kd.C_drew ?_))); (case side2 => exact HC0_4.out); (case side3 => repeat (first | exact (Kd.C_below HR1_4.out HB.out) | (with_reducible refine Kd.C_alloc ?_ _) | (with_reducible refine Kd.C_drewN ?_ _) | (with_reducible refine Kd.C_drew ?_))); (case side4 => exact HC1_4.out); rintro e w' ⟨rfl, ⟨nd, rfl⟩⟩))
                    go_ret
                    exact ⟨by first | rfl | (simp [errW_none, errW_some] <;> rfl) | (simp [*, errW_none, errW_some] <;> rfl), by repeat (first | (with_reducible first | exact HB.out | apply below_alloc | apply pw_below_drewN | apply below_drew1 | refine below_set ?_ GE191.out | refine below_set ?_ GE192.out) | exact HB.out)⟩
              · replace c34 := Bool.eq_false_iff.mpr c34
                subst c34
                have H1 : (some false) = some r := by rw [if_neg (show ¬ (false = true) by decide)] at H; exact H
                clear H
                have H := H1
                clear H1
                obtain rfl := Option.some.inj H
                have hnb46 := NB191_192.out
                have hnc46 := NB192_191.out
                have hcz47_0 : wc.cell? ⟨gb191, 0, none⟩ = some (.int .i64 a0_0) := (blk_cell BK191.out 0).trans rfl
                have hcz47_1 : wc.cell? ⟨gb191, 1, none⟩ = some (.bool a0_1) := (blk_cell BK191.out 1).trans rfl
                have hcz47_2 : wc.cell? ⟨gb191, 2, none⟩ = some (.int .i64 a0_2) := (blk_cell BK191.out 2).trans rfl
                have hcz47_3 : wc.cell? ⟨gb191, 3, none⟩ = some (.int .u64 a0_3) := (blk_cell BK191.out 3).trans rfl
                have hcz47_4 : wc.cell? ⟨gb191, 4, none⟩ = some (.slice A0_4 l0_4.length c0_4) := (blk_cell BK191.out 4).trans rfl
                have hcz47_5 : wc.cell? ⟨gb191, 5, none⟩ = some (.int .i64 a0_5) := (blk_cell BK191.out 5).trans rfl
                have hfz47_0 := blk_frozen BK191.out 0
                have hfz47_1 := blk_frozen BK191.out 1
                have hfz47_2 := blk_frozen BK191.out 2
                have hfz47_3 := blk_frozen BK191.out 3
                have hfz47_4 := blk_frozen BK191.out 4
                have hfz47_5 := blk_frozen BK191.out 5
                have hcz48_0 : wc.cell? ⟨gb192, 0, none⟩ = some (.int .i64 a1_0) := (blk_cell BK192.out 0).trans rfl
                have hcz48_1 : wc.cell? ⟨gb192, 1, none⟩ = some (.bool a1_1) := (blk_cell BK192.out 1).trans rfl
                have hcz48_2 : wc.cell? ⟨gb192, 2, none⟩ = some (.int .i64 a1_2) := (blk_cell BK192.out 2).trans rfl
                have hcz48_3 : wc.cell? ⟨gb192, 3, none⟩ = some (.int .u64 a1_3) := (blk_cell BK192.out 3).trans rfl
                have hcz48_4 : wc.cell? ⟨gb192, 4, none⟩ = some (.slice A1_4 l1_4.length c1_4) := (blk_cell BK192.out 4).trans rfl
                have hcz48_5 : wc.cell? ⟨gb192, 5, none⟩ = some (.int .i64 a1_5) := (blk_cell BK192.out 5).trans rfl
                have hfz48_0 := blk_frozen BK192.out 0
                have hfz48_1 := blk_frozen BK192.out 1
                have hfz48_2 := blk_frozen BK192.out 2
                have hfz48_3 := blk_frozen BK192.out 3
                have hfz48_4 := blk_frozen BK192.out 4
                have hfz48_5 := blk_frozen BK192.out 5
                go_wp2_with (first | (go_at_call 81; (with_reducible refine (spec_l7Begins.calls kj7 _ _ l0_4 _ _ l1_4 false _ ?side1 ?side2 ?side3 ?side4 A33.out).mono ?_); (case side1 => repeat (first | exact (Kd.C_below HR0_4.out HB.out) | (with_reducible refine Kd.C_alloc ?_ _) | (with_reducible refine Kd.C_drewN ?_ _) | (with_reducible refine Kd.C_drew ?_))); (case side2 => exact HC0_4.out); (case side3 => repeat (first | exact (Kd.C_below HR1_4.out HB.out) | (with_reducible refine Kd.C_alloc ?_ _) | (with_reducible refine Kd.C_drewN ?_ _) | (with_reducible refine Kd.C_drew ?_))); (case side4 => exact HC1_4.out); rintro e w' ⟨rfl, ⟨nd, rfl⟩⟩))
                go_ret
                exact ⟨by first | rfl | (simp [errW_none, errW_some] <;> rfl) | (simp [*, errW_none, errW_some] <;> rfl), by repeat (first | (with_reducible first | exact HB.out | apply below_alloc | apply pw_below_drewN | apply below_drew1 | refine below_set ?_ GE191.out | refine below_set ?_ GE192.out) | exact HB.out)⟩
            · rw [if_neg c32] at H
              have c32b0 : ((l0_4.length : Int) == (l1_4.length : Int)) = false := beq_eq_false_iff_ne.mpr c32
              have c32b1 : ((l0_4.length : Int) != (l1_4.length : Int)) = true := bne_iff_ne.mpr c32
              have c32b2 : (l0_4.length == l1_4.length) = false := by first | simpa using c32 | (simp at c32 ⊢; omega)
              obtain rfl := Option.some.inj H
              have hnb49 := NB191_192.out
              have hnc49 := NB192_191.out
              have hcz50_0 : wc.cell? ⟨gb191, 0, none⟩ = some (.int .i64 a0_0) := (blk_cell BK191.out 0).trans rfl
              have hcz50_1 : wc.cell? ⟨gb191, 1, none⟩ = some (.bool a0_1) := (blk_cell BK191.out 1).trans rfl
              have hcz50_2 : wc.cell? ⟨gb191, 2, none⟩ = some (.int .i64 a0_2) := (blk_cell BK191.out 2).trans rfl
              have hcz50_3 : wc.cell? ⟨gb191, 3, none⟩ = some (.int .u64 a0_3) := (blk_cell BK191.out 3).trans rfl
              have hcz50_4 : wc.cell? ⟨gb191, 4, none⟩ = some (.slice A0_4 l0_4.length c0_4) := (blk_cell BK191.out 4).trans rfl
              have hcz50_5 : wc.cell? ⟨gb191, 5, none⟩ = some (.int .i64 a0_5) := (blk_cell BK191.out 5).trans rfl
              have hfz50_0 := blk_frozen BK191.out 0
              have hfz50_1 := blk_frozen BK191.out 1
              have hfz50_2 := blk_frozen BK191.out 2
              have hfz50_3 := blk_frozen BK191.out 3
              have hfz50_4 := blk_frozen BK191.out 4
              have hfz50_5 := blk_frozen BK191.out 5
              have hcz51_0 : wc.cell? ⟨gb192, 0, none⟩ = some (.int .i64 a1_0) := (blk_cell BK192.out 0).trans rfl
              have hcz51_1 : wc.cell? ⟨gb192, 1, none⟩ = some (.bool a1_1) := (blk_cell BK192.out 1).trans rfl
              have hcz51_2 : wc.cell? ⟨gb192, 2, none⟩ = some (.int .i64 a1_2) := (blk_cell BK192.out 2).trans rfl
              have hcz51_3 : wc.cell? ⟨gb192, 3, none⟩ = some (.int .u64 a1_3) := (blk_cell BK192.out 3).trans rfl
              have hcz51_4 : wc.cell? ⟨gb192, 4, none⟩ = some (.slice A1_4 l1_4.length c1_4) := (blk_cell BK192.out 4).trans rfl
              have hcz51_5 : wc.cell? ⟨gb192, 5, none⟩ = some (.int .i64 a1_5) := (blk_cell BK192.out 5).trans rfl
              have hfz51_0 := blk_frozen BK192.out 0
              have hfz51_1 := blk_frozen BK192.out 1
              have hfz51_2 := blk_frozen BK192.out 2
              have hfz51_3 := blk_frozen BK192.out 3
              have hfz51_4 := blk_frozen BK192.out 4
              have hfz51_5 := blk_frozen BK192.out 5
              go_wp2
              go_ret
              exact ⟨by first | rfl | (simp [errW_none, errW_some] <;> rfl) | (simp [*, errW_none, errW_some] <;> rfl), by repeat (first | (with_reducible first | exact HB.out | apply below_alloc | apply pw_below_drewN | apply below_drew1 | refine below_set ?_ GE191.out | refine below_set ?_ GE192.out) | exact HB.out)⟩
          · rw [if_neg c31] at H
            have c31b0 : (a0_0 == a1_0) = false := beq_eq_false_iff_ne.mpr c31
            have c31b1 : (a0_0 != a1_0) = true := bne_iff_ne.mpr c31
            obtain rfl := Option.some.inj H
            have hnb52 := NB191_192.out
            have hnc52 := NB192_191.out
            have hcz53_0 : wc.cell? ⟨gb191, 0, none⟩ = some (.int .i64 a0_0) := (blk_cell BK191.out 0).trans rfl
            have hcz53_1 : wc.cell? ⟨gb191, 1, none⟩ = some (.bool a0_1) := (blk_cell BK191.out 1).trans rfl
            have hcz53_2 : wc.cell? ⟨gb191, 2, none⟩ = some (.int .i64 a0_2) := (blk_cell BK191.out 2).trans rfl
            have hcz53_3 : wc.cell? ⟨gb191, 3, none⟩ = some (.int .u64 a0_3) := (blk_cell BK191.out 3).trans rfl
            have hcz53_4 : wc.cell? ⟨gb191, 4, none⟩ = some (.slice A0_4 l0_4.length c0_4) := (blk_cell BK191.out 4).trans rfl
            have hcz53_5 : wc.cell? ⟨gb191, 5, none⟩ = some (.int .i64 a0_5) := (blk_cell BK191.out 5).trans rfl
            have hfz53_0 := blk_frozen BK191.out 0
            have hfz53_1 := blk_frozen BK191.out 1
            have hfz53_2 := blk_frozen BK191.out 2
            have hfz53_3 := blk_frozen BK191.out 3
            have hfz53_4 := blk_frozen BK191.out 4
            have hfz53_5 := blk_frozen BK191.out 5
            have hcz54_0 : wc.cell? ⟨gb192, 0, none⟩ = some (.int .i64 a1_0) := (blk_cell BK192.out 0).trans rfl
            have hcz54_1 : wc.cell? ⟨gb192, 1, none⟩ = some (.bool a1_1) := (blk_cell BK192.out 1).trans rfl
            have hcz54_2 : wc.cell? ⟨gb192, 2, none⟩ = some (.int .i64 a1_2) := (blk_cell BK192.out 2).trans rfl
            have hcz54_3 : wc.cell? ⟨gb192, 3, none⟩ = some (.int .u64 a1_3) := (blk_cell BK192.out 3).trans rfl
            have hcz54_4 : wc.cell? ⟨gb192, 4, none⟩ = some (.slice A1_4 l1_4.length c1_4) := (blk_cell BK192.out 4).trans rfl
            have hcz54_5 : wc.cell? ⟨gb192, 5, none⟩ = some (.int .i64 a1_5) := (blk_cell BK192.out 5).trans rfl
            have hfz54_0 := blk_frozen BK192.out 0
            have hfz54_1 := blk_frozen BK192.out 1
            have hfz54_2 := blk_frozen BK192.out 2
            have hfz54_3 := blk_frozen BK192.out 3
            have hfz54_4 := blk_frozen BK192.out 4
            have hfz54_5 := blk_frozen BK192.out 5
            go_wp2
            go_ret
            exact ⟨by first | rfl | (simp [errW_none, errW_some] <;> rfl) | (simp [*, errW_none, errW_some] <;> rfl), by repeat (first | (with_reducible first | exact HB.out | apply below_alloc | apply pw_below_drewN | apply below_drew1 | refine below_set ?_ GE191.out | refine below_set ?_ GE192.out) | exact HB.out)⟩

end Go.Proofs.Ythfhenhlfedfmaa.QFnRefines
