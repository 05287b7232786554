-- written by mp.py, a program of this session, over the translation; Lean checks it
import Derived.Test.YthfhenhlfedfmaaQFnRefinesx0
import Derived.Test.YthfhenhlfedfmaaQFnRefinesx1
import Derived.Test.YthfhenhlfedfmaaQFnRefinesx4
namespace Go.Proofs.Ythfhenhlfedfmaa.QFnRefines
open Go.RowKit Go.Proofs.YthfhenhlfedfmaaW.PrintWords Go.Proofs.YthfhenhlfedfmaaW.PrintLast Go.Proofs.YthfhenhlfedfmaaW.PrintMore
attribute [local go_sem] max2_int min2_int max_two min_two max_three min_three max_four min_four   -- for this text's walks alone
set_option linter.unusedVariables false
set_option linter.unusedSimpArgs false

attribute [local go_sem high] eqA50
/-! ### impl_Refines: function 34 -/
def impl_Refines.j0 : Nat → Bool → Int → Bool → Int → Int → List Int → Int → Int → Bool → Int → Int → List Int → Int → Option (Bool)
  | 0, _, _, _, _, _, _, _, _, _, _, _, _, _ => none
  | k + 1, x10, x184000, x184001, x184002, x184003, x184004, x184005, x185000, x185001, x185002, x185003, x185004, x185005 => if x10 = true then ((impl_beginning.f k x184004 x185004).bind fun t185 => (if t185 = true then (some true) else ((impl_beginning.f k x185004 x184004).bind fun t186 => (if t186 = true then (some true) else (if x184000 = x185000 then (if (x184004.length : Int) = (x185004.length : Int) then ((impl_beginning.f k x184004 x185004).bind fun t187 => (if t187 = true then (if x184001 = true then (some true) else (if x184002 = 0 then (some (x184001 == x185001 && (x184002 == x185002 && (x184003 == x185003)))) else (some true))) else (some false))) else (some false)) else (some false)))))) else (if x184000 = x185000 then (if (x184004.length : Int) = (x185004.length : Int) then ((impl_beginning.f k x184004 x185004).bind fun t188 => (if t188 = true then (if x184001 = true then (some true) else (if x184002 = 0 then (some (x184001 == x185001 && (x184002 == x185002 && (x184003 == x185003)))) else (some true))) else (some false))) else (some false)) else (some false))
def impl_Refines.f (k : Nat) (a0_0 : Int) (a0_1 : Bool) (a0_2 : Int) (a0_3 : Int) (l0_4 : List Int) (a0_5 : Int) (a1_0 : Int) (a1_1 : Bool) (a1_2 : Int) (a1_3 : Int) (l1_4 : List Int) (a1_5 : Int) : Option (Bool) := if a0_0 = 7 then (some true) else (if a0_0 = 2 then (impl_Refines.j0 k (a0_0 == 2) a0_0 a0_1 a0_2 a0_3 l0_4 a0_5 a1_0 a1_1 a1_2 a1_3 l1_4 a1_5) else (if a0_0 = 3 then (impl_Refines.j0 k (a0_0 == 3) a0_0 a0_1 a0_2 a0_3 l0_4 a0_5 a1_0 a1_1 a1_2 a1_3 l1_4 a1_5) else (if a0_0 = 4 then (impl_Refines.j0 k (a0_0 == 4) a0_0 a0_1 a0_2 a0_3 l0_4 a0_5 a1_0 a1_1 a1_2 a1_3 l1_4 a1_5) else (if a0_0 = 5 then (impl_Refines.j0 k (a0_0 == 5) a0_0 a0_1 a0_2 a0_3 l0_4 a0_5 a1_0 a1_1 a1_2 a1_3 l1_4 a1_5) else (impl_Refines.j0 k (a0_0 == 6) a0_0 a0_1 a0_2 a0_3 l0_4 a0_5 a1_0 a1_1 a1_2 a1_3 l1_4 a1_5)))))
theorem impl_Refines.mono_l : ∀ k, (∀ y0 y1 y2 y3 y4 y5 y6 y7 y8 y9 y10 y11 y12, LeO (impl_Refines.j0 k y0 y1 y2 y3 y4 y5 y6 y7 y8 y9 y10 y11 y12) (impl_Refines.j0 (k + 1) y0 y1 y2 y3 y4 y5 y6 y7 y8 y9 y10 y11 y12))
  | 0 => fun _ _ _ _ _ _ _ _ _ _ _ _ _ r h => by simp [impl_Refines.j0] at h
  | k + 1 => by
    have ih0 := impl_Refines.mono_l k
    · intro y0 y1 y2 y3 y4 y5 y6 y7 y8 y9 y10 y11 y12
      unfold impl_Refines.j0
      repeat' first
      | (with_reducible exact ih0 _ _ _ _ _ _ _ _ _ _ _ _ _)
      | (with_reducible exact impl_beginning.mono _ _ _)
      | (with_reducible exact LeO.refl _)
      | (with_reducible exact LeO.none _)
      | (with_reducible refine LeO.ite ?_ ?_)
      | (with_reducible refine LeO.bind ?_ (fun _ => ?_))
      | exact ih0 _ _ _ _ _ _ _ _ _ _ _ _ _
      | exact impl_beginning.mono _ _ _
      | exact LeO.none _
      | refine LeO.ite ?_ ?_
      | refine LeO.bind ?_ (fun _ => ?_)
theorem impl_Refines.mono : ∀ a0 a1 a2 a3 a4 a5 a6 a7 a8 a9 a10 a11 k, LeO (impl_Refines.f k a0 a1 a2 a3 a4 a5 a6 a7 a8 a9 a10 a11) (impl_Refines.f (k + 1) a0 a1 a2 a3 a4 a5 a6 a7 a8 a9 a10 a11) := by
  intro a0 a1 a2 a3 a4 a5 a6 a7 a8 a9 a10 a11 k
  have ih0 := impl_Refines.mono_l k
  unfold impl_Refines.f
  repeat' first
      | (with_reducible exact ih0 _ _ _ _ _ _ _ _ _ _ _ _ _)
      | (with_reducible exact impl_beginning.mono _ _ _)
      | (with_reducible exact LeO.refl _)
      | (with_reducible exact LeO.none _)
      | (with_reducible refine LeO.ite ?_ ?_)
      | (with_reducible refine LeO.bind ?_ (fun _ => ?_))
      | exact ih0 _ _ _ _ _ _ _ _ _ _ _ _ _
      | exact impl_beginning.mono _ _ _
      | exact LeO.none _
      | refine LeO.ite ?_ ?_
      | refine LeO.bind ?_ (fun _ => ?_)
set_option maxHeartbeats 8000000 in
set_option maxRecDepth 100000 in
theorem impl_Refines.calls (k : Nat) (a0_0 : Int) (a0_1 : Bool) (a0_2 : Int) (a0_3 : Int) (A0_4 : Option Addr) (c0_4 : Nat) (l0_4 : List Int) (a0_5 : Int) (a1_0 : Int) (a1_1 : Bool) (a1_2 : Int) (a1_3 : Int) (A1_4 : Option Addr) (c1_4 : Nat) (l1_4 : List Int) (a1_5 : Int) (r : Bool) (w : World) (hr0_4 : Kd.C (Kd.int .u64) w A0_4 l0_4.length l0_4) (hc0_4 : l0_4.length ≤ c0_4) (hr1_4 : Kd.C (Kd.int .u64) w A1_4 l1_4.length l1_4) (hc1_4 : l1_4.length ≤ c1_4) (h : impl_Refines.f k a0_0 a0_1 a0_2 a0_3 l0_4 a0_5 a1_0 a1_1 a1_2 a1_3 l1_4 a1_5 = some r) :
    Calls Try.prog 34 #[.agg #[.int .i64 a0_0, .bool a0_1, .int .i64 a0_2, .int .u64 a0_3, .slice A0_4 l0_4.length c0_4, .int .i64 a0_5], .agg #[.int .i64 a1_0, .bool a1_1, .int .i64 a1_2, .int .u64 a1_3, .slice A1_4 l1_4.length c1_4, .int .i64 a1_5]] w fun e w' => e = .returned (.bool r) ∧ Below w.heap.size w w' := by
  have hu53 := Try.underlying53
  have hu50 := Try.underlying50
  have HR0_4 := Aside0.mk hr0_4
  have HC0_4 := Aside0.mk hc0_4
  clear hr0_4 hc0_4
  have HR1_4 := Aside0.mk hr1_4
  have HC1_4 := Aside0.mk hc1_4
  clear hr1_4 hc1_4
  have HB := Aside0.mk (Below.refl w.heap.size w)
  have H : (if a0_0 = 7 then (some true) else (if a0_0 = 2 then (impl_Refines.j0 k (a0_0 == 2) a0_0 a0_1 a0_2 a0_3 l0_4 a0_5 a1_0 a1_1 a1_2 a1_3 l1_4 a1_5) else (if a0_0 = 3 then (impl_Refines.j0 k (a0_0 == 3) a0_0 a0_1 a0_2 a0_3 l0_4 a0_5 a1_0 a1_1 a1_2 a1_3 l1_4 a1_5) else (if a0_0 = 4 then (impl_Refines.j0 k (a0_0 == 4) a0_0 a0_1 a0_2 a0_3 l0_4 a0_5 a1_0 a1_1 a1_2 a1_3 l1_4 a1_5) else (if a0_0 = 5 then (impl_Refines.j0 k (a0_0 == 5) a0_0 a0_1 a0_2 a0_3 l0_4 a0_5 a1_0 a1_1 a1_2 a1_3 l1_4 a1_5) else (impl_Refines.j0 k (a0_0 == 6) a0_0 a0_1 a0_2 a0_3 l0_4 a0_5 a1_0 a1_1 a1_2 a1_3 l1_4 a1_5)))))) = some r := h
  clear h
  by_cases c3 : a0_0 = 7
  · rw [if_pos c3] at H
    have c3b0 : (a0_0 == 7) = true := beq_iff_eq.mpr c3
    have c3b1 : (a0_0 != 7) = false := bne_eq_false_iff_eq.mpr c3
    clear c3
    obtain rfl := Option.some.inj H
    go_enter Try.func34, Try.ntmps34
    go_wp2_with (first | ((with_reducible refine gate_dst (N := 2) rfl ?_); (try (refine gate_guard (by rfl) ?_; dsimp only)); refine box_event ?hg (N := 2) ?hd (cs := #[.int .i64 a0_0, .bool a0_1, .int .i64 a0_2, .int .u64 a0_3, .slice A0_4 l0_4.length c0_4, .int .i64 a0_5]) (t := 53) ?hr ?_; (case hd => rfl); (case hg => rfl); (case hr => first | (go_simp; done) | (go_simp; rfl)); intro gb183 hg w4 hbox hb; have n0_ := Aside0.mk (below_step (by repeat (first | (with_reducible first | exact HB.out | apply below_alloc | apply pw_below_drewN | apply below_drew1) | exact HB.out)) hb); have n1_ := Aside0.mk (hbox); have n2_ := Aside0.mk ((by rw [hg]; exact (below_size (by repeat (first | (with_reducible first | exact HB.out | apply below_alloc | apply pw_below_drewN | apply below_drew1) | exact HB.out))) : w.heap.size ≤ gb183)); have n3_ := Aside0.mk ((by rw [hg]; exact (below_size (by repeat (first | (with_reducible first | exact HB.out | apply below_alloc | apply pw_below_drewN | apply below_drew1) | exact HB.out))) : w.heap.size ≤ gb183)); clear HB; have HB := n0_; have BK183 := n1_; have GW183 := n2_; have GE183 := n3_; clear n0_ n1_ n2_ n3_; clear hb hbox hg) | ((with_reducible refine gate_dst (N := 3) rfl ?_); (try (refine gate_guard (by rfl) ?_; dsimp only)); refine box_event ?hg (N := 3) ?hd (cs := #[.int .i64 a1_0, .bool a1_1, .int .i64 a1_2, .int .u64 a1_3, .slice A1_4 l1_4.length c1_4, .int .i64 a1_5]) (t := 53) ?hr ?_; (case hd => rfl); (case hg => rfl); (case hr => first | (go_simp; done) | (go_simp; rfl)); intro gb184 hg w5 hbox hb; have n0_ := Aside0.mk (blk_below (g := gb183) (o := .cells #[.int .i64 a0_0, .bool a0_1, .int .i64 a0_2, .int .u64 a0_3, .slice A0_4 l0_4.length c0_4, .int .i64 a0_5] 53 (0, 0)) (by (with_reducible repeat (first | refine blk_drewN ?_ _ | refine blk_drew ?_ | refine blk_alloc ?_ _)); exact BK183.out) hb); have n1_ := Aside0.mk (below_step (by repeat (first | (with_reducible first | exact HB.out | apply below_alloc | apply pw_below_drewN | apply below_drew1 | refine below_set ?_ GE183.out) | exact HB.out)) hb); have n2_ := Aside0.mk (hbox); have n3_ := Aside0.mk ((by rw [hg]; exact (below_size (by repeat (first | (with_reducible first | exact HB.out | apply below_alloc | apply pw_below_drewN | apply below_drew1 | refine below_set ?_ GE183.out) | exact HB.out))) : w.heap.size ≤ gb184)); have n4_ := Aside0.mk ((by rw [hg]; exact (below_size (by repeat (first | (with_reducible first | exact HB.out | apply below_alloc | apply pw_below_drewN | apply below_drew1 | refine below_set ?_ GE183.out) | exact HB.out))) : w.heap.size ≤ gb184)); have n5_ := Aside0.mk ((by rw [hg]; exact Nat.ne_of_lt (blk_lt (g := gb183) (o := .cells #[.int .i64 a0_0, .bool a0_1, .int .i64 a0_2, .int .u64 a0_3, .slice A0_4 l0_4.length c0_4, .int .i64 a0_5] 53 (0, 0)) (by (with_reducible repeat (first | refine blk_drewN ?_ _ | refine blk_drew ?_ | refine blk_alloc ?_ _)); exact BK183.out)) : gb183 ≠ gb184)); have n6_ := Aside0.mk ((by rw [hg]; exact Nat.ne_of_gt (blk_lt (g := gb183) (o := .cells #[.int .i64 a0_0, .bool a0_1, .int .i64 a0_2, .int .u64 a0_3, .slice A0_4 l0_4.length c0_4, .int .i64 a0_5] 53 (0, 0)) (by (with_reducible repeat (first | refine blk_drewN ?_ _ | refine blk_drew ?_ | refine blk_alloc ?_ _)); exact BK183.out)) : gb184 ≠ gb183)); clear BK183; clear HB; have BK183 := n0_; have HB := n1_; have BK184 := n2_; have GW184 := n3_; have GE184 := n4_; have NB183_184 := n5_; have NB184_183 := n6_; clear n0_ n1_ n2_ n3_ n4_ n5_ n6_; clear hb hbox hg; have hnb6 := NB183_184.out; have hnc6 := NB184_183.out; have hcz7_0 : w5.cell? ⟨gb183, 0, none⟩ = some (.int .i64 a0_0) := (blk_cell BK183.out 0).trans rfl; have hcz7_1 : w5.cell? ⟨gb183, 1, none⟩ = some (.bool a0_1) := (blk_cell BK183.out 1).trans rfl; have hcz7_2 : w5.cell? ⟨gb183, 2, none⟩ = some (.int .i64 a0_2) := (blk_cell BK183.out 2).trans rfl; have hcz7_3 : w5.cell? ⟨gb183, 3, none⟩ = some (.int .u64 a0_3) := (blk_cell BK183.out 3).trans rfl; have hcz7_4 : w5.cell? ⟨gb183, 4, none⟩ = some (.slice A0_4 l0_4.length c0_4) := (blk_cell BK183.out 4).trans rfl; have hcz7_5 : w5.cell? ⟨gb183, 5, none⟩ = some (.int .i64 a0_5) := (blk_cell BK183.out 5).trans rfl; have hfz7_0 := blk_frozen BK183.out 0; have hfz7_1 := blk_frozen BK183.out 1; have hfz7_2 := blk_frozen BK183.out 2; have hfz7_3 := blk_frozen BK183.out 3; have hfz7_4 := blk_frozen BK183.out 4; have hfz7_5 := blk_frozen BK183.out 5))
    go_ret
    exact ⟨by first | rfl | (simp [errW_none, errW_some] <;> rfl) | (simp [*, errW_none, errW_some] <;> rfl), by repeat (first | (with_reducible first | exact HB.out | apply below_alloc | apply pw_below_drewN | apply below_drew1 | refine below_set ?_ GE183.out | refine below_set ?_ GE184.out) | exact HB.out)⟩
  · rw [if_neg c3] at H
    have c3b0 : (a0_0 == 7) = false := beq_eq_false_iff_ne.mpr c3
    have c3b1 : (a0_0 != 7) = true := bne_iff_ne.mpr c3
    have HC8 := Aside0.mk H
    clear H
    go_enter Try.func34, Try.ntmps34
    go_upto_if 10 with (first | ((with_reducible refine gate_dst (N := 2) rfl ?_); (try (refine gate_guard (by rfl) ?_; dsimp only)); refine box_event ?hg (N := 2) ?hd (cs := #[.int .i64 a0_0, .bool a0_1, .int .i64 a0_2, .int .u64 a0_3, .slice A0_4 l0_4.length c0_4, .int .i64 a0_5]) (t := 53) ?hr ?_; (case hd => rfl); (case hg => rfl); (case hr => first | (go_simp; done) | (go_simp; rfl)); intro gb183 hg w9 hbox hb; have n0_ := Aside0.mk (below_step (by repeat (first | (with_reducible first | exact HB.out | apply below_alloc | apply pw_below_drewN | apply below_drew1) | exact HB.out)) hb); have n1_ := Aside0.mk (hbox); have n2_ := Aside0.mk ((by rw [hg]; exact (below_size (by repeat (first | (with_reducible first | exact HB.out | apply below_alloc | apply pw_below_drewN | apply below_drew1) | exact HB.out))) : w.heap.size ≤ gb183)); have n3_ := Aside0.mk ((by rw [hg]; exact (below_size (by repeat (first | (with_reducible first | exact HB.out | apply below_alloc | apply pw_below_drewN | apply below_drew1) | exact HB.out))) : w.heap.size ≤ gb183)); clear HB; have HB := n0_; have BK183 := n1_; have GW183 := n2_; have GE183 := n3_; clear n0_ n1_ n2_ n3_; clear hb hbox hg) | ((with_reducible refine gate_dst (N := 3) rfl ?_); (try (refine gate_guard (by rfl) ?_; dsimp only)); refine box_event ?hg (N := 3) ?hd (cs := #[.int .i64 a1_0, .bool a1_1, .int .i64 a1_2, .int .u64 a1_3, .slice A1_4 l1_4.length c1_4, .int .i64 a1_5]) (t := 53) ?hr ?_; (case hd => rfl); (case hg => rfl); (case hr => first | (go_simp; done) | (go_simp; rfl)); intro gb184 hg w10 hbox hb; have n0_ := Aside0.mk (blk_below (g := gb183) (o := .cells #[.int .i64 a0_0, .bool a0_1, .int .i64 a0_2, .int .u64 a0_3, .slice A0_4 l0_4.length c0_4, .int .i64 a0_5] 53 (0, 0)) (by (with_reducible repeat (first | refine blk_drewN ?_ _ | refine blk_drew ?_ | refine blk_alloc ?_ _)); exact BK183.out) hb); have n1_ := Aside0.mk (below_step (by repeat (first | (with_reducible first | exact HB.out | apply below_alloc | apply pw_below_drewN | apply below_drew1 | refine below_set ?_ GE183.out) | exact HB.out)) hb); have n2_ := Aside0.mk (hbox); have n3_ := Aside0.mk ((by rw [hg]; exact (below_size (by repeat (first | (with_reducible first | exact HB.out | apply below_alloc | apply pw_below_drewN | apply below_drew1 | refine below_set ?_ GE183.out) | exact HB.out))) : w.heap.size ≤ gb184)); have n4_ := Aside0.mk ((by rw [hg]; exact (below_size (by repeat (first | (with_reducible first | exact HB.out | apply below_alloc | apply pw_below_drewN | apply below_drew1 | refine below_set ?_ GE183.out) | exact HB.out))) : w.heap.size ≤ gb184)); have n5_ := Aside0.mk ((by rw [hg]; exact Nat.ne_of_lt (blk_lt (g := gb183) (o := .cells #[.int .i64 a0_0, .bool a0_1, .int .i64 a0_2, .int .u64 a0_3, .slice A0_4 l0_4.length c0_4, .int .i64 a0_5] 53 (0, 0)) (by (with_reducible repeat (first | refine blk_drewN ?_ _ | refine blk_drew ?_ | refine blk_alloc ?_ _)); exact BK183.out)) : gb183 ≠ gb184)); have n6_ := Aside0.mk ((by rw [hg]; exact Nat.ne_of_gt (blk_lt (g := gb183) (o := .cells #[.int .i64 a0_0, .bool a0_1, .int .i64 a0_2, .int .u64 a0_3, .slice A0_4 l0_4.length c0_4, .int .i64 a0_5] 53 (0, 0)) (by (with_reducible repeat (first | refine blk_drewN ?_ _ | refine blk_drew ?_ | refine blk_alloc ?_ _)); exact BK183.out)) : gb184 ≠ gb183)); clear BK183; clear HB; have BK183 := n0_; have HB := n1_; have BK184 := n2_; have GW184 := n3_; have GE184 := n4_; have NB183_184 := n5_; have NB184_183 := n6_; clear n0_ n1_ n2_ n3_ n4_ n5_ n6_; clear hb hbox hg; have hnb11 := NB183_184.out; have hnc11 := NB184_183.out; have hcz12_0 : w10.cell? ⟨gb183, 0, none⟩ = some (.int .i64 a0_0) := (blk_cell BK183.out 0).trans rfl; have hcz12_1 : w10.cell? ⟨gb183, 1, none⟩ = some (.bool a0_1) := (blk_cell BK183.out 1).trans rfl; have hcz12_2 : w10.cell? ⟨gb183, 2, none⟩ = some (.int .i64 a0_2) := (blk_cell BK183.out 2).trans rfl; have hcz12_3 : w10.cell? ⟨gb183, 3, none⟩ = some (.int .u64 a0_3) := (blk_cell BK183.out 3).trans rfl; have hcz12_4 : w10.cell? ⟨gb183, 4, none⟩ = some (.slice A0_4 l0_4.length c0_4) := (blk_cell BK183.out 4).trans rfl; have hcz12_5 : w10.cell? ⟨gb183, 5, none⟩ = some (.int .i64 a0_5) := (blk_cell BK183.out 5).trans rfl; have hfz12_0 := blk_frozen BK183.out 0; have hfz12_1 := blk_frozen BK183.out 1; have hfz12_2 := blk_frozen BK183.out 2; have hfz12_3 := blk_frozen BK183.out 3; have hfz12_4 := blk_frozen BK183.out 4; have hfz12_5 := blk_frozen BK183.out 5))
    (try simp only [Act.put, List.setIfInBounds_toArray, List.set_cons_zero, List.set_cons_succ])
    go_cut [10] (fun v10 wc => ∃ (kq : Nat) (x10_7 : Bool), v10 = .bool x10_7 ∧ Aside0 (impl_Refines.j0 kq x10_7 a0_0 a0_1 a0_2 a0_3 l0_4 a0_5 a1_0 a1_1 a1_2 a1_3 l1_4 a1_5 = some r) ∧ Aside0 (kq ≤ k) ∧ Aside0 (wc.heap[gb183]? = some (.cells #[.int .i64 a0_0, .bool a0_1, .int .i64 a0_2, .int .u64 a0_3, (.slice A0_4 l0_4.length c0_4), .int .i64 a0_5] 53 (0, 0))) ∧ Aside0 (wc.heap[gb184]? = some (.cells #[.int .i64 a1_0, .bool a1_1, .int .i64 a1_2, .int .u64 a1_3, (.slice A1_4 l1_4.length c1_4), .int .i64 a1_5] 53 (0, 0))) ∧ Aside0 (Below w.heap.size w wc))
    case first =>
      have H := HC8.out
      clear HC8
      by_cases c13 : a0_0 = 2
      · rw [if_pos c13] at H
        have c13b0 : (a0_0 == 2) = true := beq_iff_eq.mpr c13
        have c13b1 : (a0_0 != 2) = false := bne_eq_false_iff_eq.mpr c13
        clear c13
        (first | rw [c13b0] | (simp only [i64_w, i32_w]; rw [c13b0]) | skip)
        have H' := Aside0.mk H
        clear H
        go_wp2
        go_meet
        case rel => exact ⟨_, ((a0_0 == 2)), (by first | rfl | (simp; done) | (simp [*]; done)), H', ⟨by first | omega | exact Nat.le_refl _⟩, ⟨by (with_reducible repeat (first | refine blk_drewN ?_ _ | refine blk_drew ?_ | refine blk_alloc ?_ _)); exact BK183.out⟩, ⟨by (with_reducible repeat (first | refine blk_drewN ?_ _ | refine blk_drew ?_ | refine blk_alloc ?_ _)); exact BK184.out⟩, ⟨by repeat (first | (with_reducible first | exact HB.out | apply below_alloc | apply pw_below_drewN | apply below_drew1 | refine below_set ?_ GE183.out | refine below_set ?_ GE184.out) | exact HB.out)⟩⟩
      · rw [if_neg c13] at H
        have c13b0 : (a0_0 == 2) = false := beq_eq_false_iff_ne.mpr c13
        have c13b1 : (a0_0 != 2) = true := bne_iff_ne.mpr c13
        (first | rw [c13b0] | (simp only [i64_w, i32_w]; rw [c13b0]) | skip)
        by_cases c14 : a0_0 = 3
        · rw [if_pos c14] at H
          have c14b0 : (a0_0 == 3) = true := beq_iff_eq.mpr c14
          have c14b1 : (a0_0 != 3) = false := bne_eq_false_iff_eq.mpr c14
          clear c14
          have H' := Aside0.mk H
          clear H
          go_wp2
          go_meet
          case rel => exact ⟨_, ((a0_0 == 3)), (by first | rfl | (simp; done) | (simp [*]; done)), H', ⟨by first | omega | exact Nat.le_refl _⟩, ⟨by (with_reducible repeat (first | refine blk_drewN ?_ _ | refine blk_drew ?_ | refine blk_alloc ?_ _)); exact BK183.out⟩, ⟨by (with_reducible repeat (first | refine blk_drewN ?_ _ | refine blk_drew ?_ | refine blk_alloc ?_ _)); exact BK184.out⟩, ⟨by repeat (first | (with_reducible first | exact HB.out | apply below_alloc | apply pw_below_drewN | apply below_drew1 | refine below_set ?_ GE183.out | refine below_set ?_ GE184.out) | exact HB.out)⟩⟩
        · rw [if_neg c14] at H
          have c14b0 : (a0_0 == 3) = false := beq_eq_false_iff_ne.mpr c14
          have c14b1 : (a0_0 != 3) = true := bne_iff_ne.mpr c14
          by_cases c15 : a0_0 = 4
          · rw [if_pos c15] at H
            have c15b0 : (a0_0 == 4) = true := beq_iff_eq.mpr c15
            have c15b1 : (a0_0 != 4) = false := bne_eq_false_iff_eq.mpr c15
            clear c15
            have H' := Aside0.mk H
            clear H
            go_wp2
            go_meet
            case rel => exact ⟨_, ((a0_0 == 4)), (by first | rfl | (simp; done) | (simp [*]; done)), H', ⟨by first | omega | exact Nat.le_refl _⟩, ⟨by (with_reducible repeat (first | refine blk_drewN ?_ _ | refine blk_drew ?_ | refine blk_alloc ?_ _)); exact BK183.out⟩, ⟨by (with_reducible repeat (first | refine blk_drewN ?_ _ | refine blk_drew ?_ | refine blk_alloc ?_ _)); exact BK184.out⟩, ⟨by repeat (first | (with_reducible first | exact HB.out | apply below_alloc | apply pw_below_drewN | apply below_drew1 | refine below_set ?_ GE183.out | refine below_set ?_ GE184.out) | exact HB.out)⟩⟩
          · rw [if_neg c15] at H
            have c15b0 : (a0_0 == 4) = false := beq_eq_false_iff_ne.mpr c15
            have c15b1 : (a0_0 != 4) = true := bne_iff_ne.mpr c15
            by_cases c16 : a0_0 = 5
            · rw [if_pos c16] at H
              have c16b0 : (a0_0 == 5) = true := beq_iff_eq.mpr c16
              have c16b1 : (a0_0 != 5) = false := bne_eq_false_iff_eq.mpr c16
              clear c16
              have H' := Aside0.mk H
              clear H
              go_wp2
              go_meet
              case rel => exact ⟨_, ((a0_0 == 5)), (by first | rfl | (simp; done) | (simp [*]; done)), H', ⟨by first | omega | exact Nat.le_refl _⟩, ⟨by (with_reducible repeat (first | refine blk_drewN ?_ _ | refine blk_drew ?_ | refine blk_alloc ?_ _)); exact BK183.out⟩, ⟨by (with_reducible repeat (first | refine blk_drewN ?_ _ | refine blk_drew ?_ | refine blk_alloc ?_ _)); exact BK184.out⟩, ⟨by repeat (first | (with_reducible first | exact HB.out | apply below_alloc | apply pw_below_drewN | apply below_drew1 | refine below_set ?_ GE183.out | refine below_set ?_ GE184.out) | exact HB.out)⟩⟩
            · rw [if_neg c16] at H
              have c16b0 : (a0_0 == 5) = false := beq_eq_false_iff_ne.mpr c16
              have c16b1 : (a0_0 != 5) = true := bne_iff_ne.mpr c16
              have H' := Aside0.mk H
              clear H
              go_wp2
              go_meet
              case rel => exact ⟨_, ((a0_0 == 6)), (by first | rfl | (simp; done) | (simp [*]; done)), H', ⟨by first | omega | exact Nat.le_refl _⟩, ⟨by (with_reducible repeat (first | refine blk_drewN ?_ _ | refine blk_drew ?_ | refine blk_alloc ?_ _)); exact BK183.out⟩, ⟨by (with_reducible repeat (first | refine blk_drewN ?_ _ | refine blk_drew ?_ | refine blk_alloc ?_ _)); exact BK184.out⟩, ⟨by repeat (first | (with_reducible first | exact HB.out | apply below_alloc | apply pw_below_drewN | apply below_drew1 | refine below_set ?_ GE183.out | refine below_set ?_ GE184.out) | exact HB.out)⟩⟩
    case rest =>
      clear HC8
      try clear c1
      try clear p2
      try clear c3
      try clear c3b0
      try clear c3b1
      try clear c6
      try clear c11
      try clear c13
      try clear c13b0
      try clear c13b1
      try clear c14
      try clear c14b0
      try clear c14b1
      try clear c15
      try clear c15b0
      try clear c15b1
      try clear c16
      try clear c16b0
      try clear c16b1
      try clear hcz12_0
      try clear hcz12_1
      try clear hcz12_2
      try clear hcz12_3
      try clear hcz12_4
      try clear hcz12_5
      try clear hcz7_0
      try clear hcz7_1
      try clear hcz7_2
      try clear hcz7_3
      try clear hcz7_4
      try clear hcz7_5
      try clear hfz12_0
      try clear hfz12_1
      try clear hfz12_2
      try clear hfz12_3
      try clear hfz12_4
      try clear hfz12_5
      try clear hfz7_0
      try clear hfz7_1
      try clear hfz7_2
      try clear hfz7_3
      try clear hfz7_4
      try clear hfz7_5
      obtain ⟨kq, x10_7, rfl, HA, HJ7, BK183, BK184, HB⟩ := hcut
      cases kq with
      | zero => exact absurd HA.out (by simp [impl_Refines.j0])
      | succ kj7 =>
        have H := HA.out
        clear HA
        simp only [impl_Refines.j0] at H
        by_cases c17 : x10_7 = true
        · subst c17
          have H1 : ((impl_beginning.f kj7 l0_4 l1_4).bind fun t185 => (if t185 = true then (some true) else ((impl_beginning.f kj7 l1_4 l0_4).bind fun t186 => (if t186 = true then (some true) else (if a0_0 = a1_0 then (if (l0_4.length : Int) = (l1_4.length : Int) then ((impl_beginning.f kj7 l0_4 l1_4).bind fun t187 => (if t187 = true then (if a0_1 = true then (some true) else (if a0_2 = 0 then (some (a0_1 == a1_1 && (a0_2 == a1_2 && (a0_3 == a1_3)))) else (some true))) else (some false))) else (some false)) else (some false)))))) = some r := by rw [if_pos rfl] at H; exact H
          clear H
          have H := H1
          clear H1
          replace H := Option.bind_eq_some_iff.mp H
          obtain ⟨t185, A180, H⟩ := H
          replace H : (if t185 = true then (some true) else ((impl_beginning.f kj7 l1_4 l0_4).bind fun t186 => (if t186 = true then (some true) else (if a0_0 = a1_0 then (if (l0_4.length : Int) = (l1_4.length : Int) then ((impl_beginning.f kj7 l0_4 l1_4).bind fun t187 => (if t187 = true then (if a0_1 = true then (some true) else (if a0_2 = 0 then (some (a0_1 == a1_1 && (a0_2 == a1_2 && (a0_3 == a1_3)))) else (some true))) else (some false))) else (some false)) else (some false))))) = some r := H
          have A18 := Aside0.mk A180
          clear A180
          by_cases c19 : t185 = true
          · subst c19
            have H1 : (some true) = some r := by rw [if_pos rfl] at H; exact H
            clear H
            have H := H1
            clear H1
            obtain rfl := Option.some.inj H
            have hnb20 := NB183_184.out
            have hnc20 := NB184_183.out
            have hcz21_0 : wc.cell? ⟨gb183, 0, none⟩ = some (.int .i64 a0_0) := (blk_cell BK183.out 0).trans rfl
            have hcz21_1 : wc.cell? ⟨gb183, 1, none⟩ = some (.bool a0_1) := (blk_cell BK183.out 1).trans rfl
            have hcz21_2 : wc.cell? ⟨gb183, 2, none⟩ = some (.int .i64 a0_2) := (blk_cell BK183.out 2).trans rfl
            have hcz21_3 : wc.cell? ⟨gb183, 3, none⟩ = some (.int .u64 a0_3) := (blk_cell BK183.out 3).trans rfl
            have hcz21_4 : wc.cell? ⟨gb183, 4, none⟩ = some (.slice A0_4 l0_4.length c0_4) := (blk_cell BK183.out 4).trans rfl
            have hcz21_5 : wc.cell? ⟨gb183, 5, none⟩ = some (.int .i64 a0_5) := (blk_cell BK183.out 5).trans rfl
            have hfz21_0 := blk_frozen BK183.out 0
            have hfz21_1 := blk_frozen BK183.out 1
            have hfz21_2 := blk_frozen BK183.out 2
            have hfz21_3 := blk_frozen BK183.out 3
            have hfz21_4 := blk_frozen BK183.out 4
            have hfz21_5 := blk_frozen BK183.out 5
            have hcz22_0 : wc.cell? ⟨gb184, 0, none⟩ = some (.int .i64 a1_0) := (blk_cell BK184.out 0).trans rfl
            have hcz22_1 : wc.cell? ⟨gb184, 1, none⟩ = some (.bool a1_1) := (blk_cell BK184.out 1).trans rfl
            have hcz22_2 : wc.cell? ⟨gb184, 2, none⟩ = some (.int .i64 a1_2) := (blk_cell BK184.out 2).trans rfl
            have hcz22_3 : wc.cell? ⟨gb184, 3, none⟩ = some (.int .u64 a1_3) := (blk_cell BK184.out 3).trans rfl
            have hcz22_4 : wc.cell? ⟨gb184, 4, none⟩ = some (.slice A1_4 l1_4.length c1_4) := (blk_cell BK184.out 4).trans rfl
            have hcz22_5 : wc.cell? ⟨gb184, 5, none⟩ = some (.int .i64 a1_5) := (blk_cell BK184.out 5).trans rfl
            have hfz22_0 := blk_frozen BK184.out 0
            have hfz22_1 := blk_frozen BK184.out 1
            have hfz22_2 := blk_frozen BK184.out 2
            have hfz22_3 := blk_frozen BK184.out 3
            have hfz22_4 := blk_frozen BK184.out 4
            have hfz22_5 := blk_frozen BK184.out 5
            go_wp2_with (first | ((with_reducible refine gate_callee (f := 80) rfl ?_); refine goesL_ (some 20) rfl rfl Try.func80 (by kernel_rfl) rfl #[.slice A0_4 l0_4.length c0_4, .slice A1_4 l1_4.length c1_4] rfl (by (try simp only [List.map_toArray, List.map_cons, List.map_nil]); first | done | rfl | (simp only [List.length_drop, List.length_take]; rfl)) ?_; (with_reducible refine (impl_beginning.calls kj7 _ _ l0_4 _ _ l1_4 true _ ?side1 ?side2 ?side3 ?side4 A18.out).mono ?_); (case side1 => repeat (first | exact (Kd.C_below HR0_4.out HB.out) | (with_reducible refine Kd.C_alloc ?_ _) | (with_reducible refine Kd.C_drewN ?_ _) | (with_reducible refine Kd.C_drew ?_))); (case side2 => exact HC0_4.out); (case side3 => repeat (first | exact (Kd.C_below HR1_4.out HB.out) | (with_reducible refine Kd.C_alloc ?_ _) | (with_reducible refine Kd.C_drewN ?_ _) | (with_reducible refine Kd.C_drew ?_))); (case side4 => exact HC1_4.out); rintro e w' ⟨rfl, ⟨nd, rfl⟩⟩; refine ⟨_, rfl, ?_⟩))
            go_ret
            exact ⟨by first | rfl | (simp [errW_none, errW_some] <;> rfl) | (simp [*, errW_none, errW_some] <;> rfl), by repeat (first | (with_reducible first | exact HB.out | apply below_alloc | apply pw_below_drewN | apply below_drew1 | refine below_set ?_ GE183.out | refine below_set ?_ GE184.out) | exact HB.out)⟩
          · replace c19 := Bool.eq_false_iff.mpr c19
            subst c19
            have H1 : ((impl_beginning.f kj7 l1_4 l0_4).bind fun t186 => (if t186 = true then (some true) else (if a0_0 = a1_0 then (if (l0_4.length : Int) = (l1_4.length : Int) then ((impl_beginning.f kj7 l0_4 l1_4).bind fun t187 => (if t187 = true then (if a0_1 = true then (some true) else (if a0_2 = 0 then (some (a0_1 == a1_1 && (a0_2 == a1_2 && (a0_3 == a1_3)))) else (some true))) else (some false))) else (some false)) else (some false)))) = some r := by rw [if_neg (show ¬ (false = true) by decide)] at H; exact H
            clear H
            have H := H1
            clear H1
            replace H := Option.bind_eq_some_iff.mp H
            obtain ⟨t186, A230, H⟩ := H
            replace H : (if t186 = true then (some true) else (if a0_0 = a1_0 then (if (l0_4.length : Int) = (l1_4.length : Int) then ((impl_beginning.f kj7 l0_4 l1_4).bind fun t187 => (if t187 = true then (if a0_1 = true then (some true) else (if a0_2 = 0 then (some (a0_1 == a1_1 && (a0_2 == a1_2 && (a0_3 == a1_3)))) else (some true))) else (some false))) else (some false)) else (some false))) = some r := H
            have A23 := Aside0.mk A230
            clear A230
            by_cases c24 : t186 = true
            · subst c24
              have H1 : (some true) = some r := by rw [if_pos rfl] at H; exact H
              clear H
              have H := H1
              clear H1
              obtain rfl := Option.some.inj H
              have hnb25 := NB183_184.out
              have hnc25 := NB184_183.out
              have hcz26_0 : wc.cell? ⟨gb183, 0, none⟩ = some (.int .i64 a0_0) := (blk_cell BK183.out 0).trans rfl
              have hcz26_1 : wc.cell? ⟨gb183, 1, none⟩ = some (.bool a0_1) := (blk_cell BK183.out 1).trans rfl
              have hcz26_2 : wc.cell? ⟨gb183, 2, none⟩ = some (.int .i64 a0_2) := (blk_cell BK183.out 2).trans rfl
              have hcz26_3 : wc.cell? ⟨gb183, 3, none⟩ = some (.int .u64 a0_3) := (blk_cell BK183.out 3).trans rfl
              have hcz26_4 : wc.cell? ⟨gb183, 4, none⟩ = some (.slice A0_4 l0_4.length c0_4) := (blk_cell BK183.out 4).trans rfl
              have hcz26_5 : wc.cell? ⟨gb183, 5, none⟩ = some (.int .i64 a0_5) := (blk_cell BK183.out 5).trans rfl
              have hfz26_0 := blk_frozen BK183.out 0
              have hfz26_1 := blk_frozen BK183.out 1
              have hfz26_2 := blk_frozen BK183.out 2
              have hfz26_3 := blk_frozen BK183.out 3
              have hfz26_4 := blk_frozen BK183.out 4
              have hfz26_5 := blk_frozen BK183.out 5
              have hcz27_0 : wc.cell? ⟨gb184, 0, none⟩ = some (.int .i64 a1_0) := (blk_cell BK184.out 0).trans rfl
              have hcz27_1 : wc.cell? ⟨gb184, 1, none⟩ = some (.bool a1_1) := (blk_cell BK184.out 1).trans rfl
              have hcz27_2 : wc.cell? ⟨gb184, 2, none⟩ = some (.int .i64 a1_2) := (blk_cell BK184.out 2).trans rfl
              have hcz27_3 : wc.cell? ⟨gb184, 3, none⟩ = some (.int .u64 a1_3) := (blk_cell BK184.out 3).trans rfl
              have hcz27_4 : wc.cell? ⟨gb184, 4, none⟩ = some (.slice A1_4 l1_4.length c1_4) := (blk_cell BK184.out 4).trans rfl
              have hcz27_5 : wc.cell? ⟨gb184, 5, none⟩ = some (.int .i64 a1_5) := (blk_cell BK184.out 5).trans rfl
              have hfz27_0 := blk_frozen BK184.out 0
              have hfz27_1 := blk_frozen BK184.out 1
              have hfz27_2 := blk_frozen BK184.out 2
              have hfz27_3 := blk_frozen BK184.out 3
              have hfz27_4 := blk_frozen BK184.out 4
              have hfz27_5 := blk_frozen BK184.out 5
              go_wp2_with (first | ((with_reducible refine gate_callee (f := 80) rfl ?_); refine goesL_ (some 20) rfl rfl Try.func80 (by kernel_rfl) rfl #[.slice A0_4 l0_4.length c0_4, .slice A1_4 l1_4.length c1_4] rfl (by (try simp only [List.map_toArray, List.map_cons, List.map_nil]); first | done | rfl | (simp only [List.length_drop, List.length_take]; rfl)) ?_; (with_reducible refine (impl_beginning.calls kj7 _ _ l0_4 _ _ l1_4 false _ ?side1 ?side2 ?side3 ?side4 A18.out).mono ?_); (case side1 => repeat (first | exact (Kd.C_below HR0_4.out HB.out) | (with_reducible refine Kd.C_alloc ?_ _) | (with_reducible refine Kd.C_drewN ?_ _) | (with_reducible refine Kd.C_drew ?_))); (case side2 => exact HC0_4.out); (case side3 => repeat (first | exact (Kd.C_below HR1_4.out HB.out) | (with_reducible refine Kd.C_alloc ?_ _) | (with_reducible refine Kd.C_drewN ?_ _) | (with_reducible refine Kd.C_drew ?_))); (case side4 => exact HC1_4.out); rintro e w' ⟨rfl, ⟨nd, rfl⟩⟩; refine ⟨_, rfl, ?_⟩) | (go_at_call 80; (with_reducible refine (impl_beginning.calls kj7 _ _ l1_4 _ _ l0_4 true _ ?side1 ?side2 ?side3 ?side4 A23.out).mono ?_); (case side1 => repeat (first | exact (Kd.C_below HR1_4.out (by repeat (first | (with_reducible first | exact HB.out | apply below_alloc | apply pw_below_drewN | apply below_drew1 | refine below_set ?_ GE183.out | refine below_set ?_ GE184.out) | exact HB.out))) | (with_reducible refine Kd.C_alloc ?_ _) | (with_reducible refine Kd.C_drewN ?_ _) | (with_reducible refine Kd.C_drew ?_))); (case side2 => exact HC1_4.out); (case side3 => repeat (first | exact (Kd.C_below HR0_4.out (by repeat (first | (with_reducible first | exact HB.out | apply below_alloc | apply pw_below_drewN | apply below_drew1 | refine below_set ?_ GE183.out | refine below_set ?_ GE184.out) | exact HB.out))) | (with_reducible refine Kd.C_alloc ?_ _) | (with_reducible refine Kd.C_drewN ?_ _) | (with_reducible refine Kd.C_drew ?_))); (case side4 => exact HC0_4.out); rintro e w' ⟨rfl, ⟨nd, rfl⟩⟩))
              go_ret
              exact ⟨by first | rfl | (simp [errW_none, errW_some] <;> rfl) | (simp [*, errW_none, errW_some] <;> rfl), by repeat (first | (with_reducible first | exact HB.out | apply below_alloc | apply pw_below_drewN | apply below_drew1 | refine below_set ?_ GE183.out | refine below_set ?_ GE184.out) | exact HB.out)⟩
            · replace c24 := Bool.eq_false_iff.mpr c24
              subst c24
              have H1 : (if a0_0 = a1_0 then (if (l0_4.length : Int) = (l1_4.length : Int) then ((impl_beginning.f kj7 l0_4 l1_4).bind fun t187 => (if t187 = true then (if a0_1 = true then (some true) else (if a0_2 = 0 then (some (a0_1 == a1_1 && (a0_2 == a1_2 && (a0_3 == a1_3)))) else (some true))) else (some false))) else (some false)) else (some false)) = some r := by rw [if_neg (show ¬ (false = true) by decide)] at H; exact H
              clear H
              have H := H1
              clear H1
              by_cases c28 : a0_0 = a1_0
              · rw [if_pos c28] at H
                have c28b0 : (a0_0 == a1_0) = true := beq_iff_eq.mpr c28
                have c28b1 : (a0_0 != a1_0) = false := bne_eq_false_iff_eq.mpr c28
                clear c28
                by_cases c29 : (l0_4.length : Int) = (l1_4.length : Int)
                · rw [if_pos c29] at H
                  have c29b0 : ((l0_4.length : Int) == (l1_4.length : Int)) = true := beq_iff_eq.mpr c29
                  have c29b1 : ((l0_4.length : Int) != (l1_4.length : Int)) = false := bne_eq_false_iff_eq.mpr c29
                  have c29b2 : (l0_4.length == l1_4.length) = true := by first | simpa using c29 | (simp at c29 ⊢; omega)
                  clear c29
                  replace H := Option.bind_eq_some_iff.mp H
                  obtain ⟨t187, A300, H⟩ := H
                  replace H : (if t187 = true then (if a0_1 = true then (some true) else (if a0_2 = 0 then (some (a0_1 == a1_1 && (a0_2 == a1_2 && (a0_3 == a1_3)))) else (some true))) else (some false)) = some r := H
                  have A30 := Aside0.mk A300
                  clear A300
                  by_cases c31 : t187 = true
                  · subst c31
                    have H1 : (if a0_1 = true then (some true) else (if a0_2 = 0 then (some (a0_1 == a1_1 && (a0_2 == a1_2 && (a0_3 == a1_3)))) else (some true))) = some r := by rw [if_pos rfl] at H; exact H
                    clear H
                    have H := H1
                    clear H1
                    by_cases c32 : a0_1 = true
                    · subst c32
                      have H1 : (some true) = some r := by rw [if_pos rfl] at H; exact H
                      clear H
                      have H := H1
                      clear H1
                      obtain rfl := Option.some.inj H
                      have hnb33 := NB183_184.out
                      have hnc33 := NB184_183.out
                      have hcz34_0 : wc.cell? ⟨gb183, 0, none⟩ = some (.int .i64 a0_0) := (blk_cell BK183.out 0).trans rfl
                      have hcz34_1 : wc.cell? ⟨gb183, 1, none⟩ = some (.bool true) := (blk_cell BK183.out 1).trans rfl
                      have hcz34_2 : wc.cell? ⟨gb183, 2, none⟩ = some (.int .i64 a0_2) := (blk_cell BK183.out 2).trans rfl
                      have hcz34_3 : wc.cell? ⟨gb183, 3, none⟩ = some (.int .u64 a0_3) := (blk_cell BK183.out 3).trans rfl
                      have hcz34_4 : wc.cell? ⟨gb183, 4, none⟩ = some (.slice A0_4 l0_4.length c0_4) := (blk_cell BK183.out 4).trans rfl
                      have hcz34_5 : wc.cell? ⟨gb183, 5, none⟩ = some (.int .i64 a0_5) := (blk_cell BK183.out 5).trans rfl
                      have hfz34_0 := blk_frozen BK183.out 0
                      have hfz34_1 := blk_frozen BK183.out 1
                      have hfz34_2 := blk_frozen BK183.out 2
                      have hfz34_3 := blk_frozen BK183.out 3
                      have hfz34_4 := blk_frozen BK183.out 4
                      have hfz34_5 := blk_frozen BK183.out 5
                      have hcz35_0 : wc.cell? ⟨gb184, 0, none⟩ = some (.int .i64 a1_0) := (blk_cell BK184.out 0).trans rfl
                      have hcz35_1 : wc.cell? ⟨gb184, 1, none⟩ = some (.bool a1_1) := (blk_cell BK184.out 1).trans rfl
                      have hcz35_2 : wc.cell? ⟨gb184, 2, none⟩ = some (.int .i64 a1_2) := (blk_cell BK184.out 2).trans rfl
                      have hcz35_3 : wc.cell? ⟨gb184, 3, none⟩ = some (.int .u64 a1_3) := (blk_cell BK184.out 3).trans rfl
                      have hcz35_4 : wc.cell? ⟨gb184, 4, none⟩ = some (.slice A1_4 l1_4.length c1_4) := (blk_cell BK184.out 4).trans rfl
                      have hcz35_5 : wc.cell? ⟨gb184, 5, none⟩ = some (.int .i64 a1_5) := (blk_cell BK184.out 5).trans rfl
                      have hfz35_0 := blk_frozen BK184.out 0
                      have hfz35_1 := blk_frozen BK184.out 1
                      have hfz35_2 := blk_frozen BK184.out 2
                      have hfz35_3 := blk_frozen BK184.out 3
                      have hfz35_4 := blk_frozen BK184.out 4
                      have hfz35_5 := blk_frozen BK184.out 5
                      go_wp2_with (first | ((with_reducible refine gate_callee (f := 80) rfl ?_); refine goesL_ (some 20) rfl rfl Try.func80 (by kernel_rfl) rfl #[.slice A0_4 l0_4.length c0_4, .slice A1_4 l1_4.length c1_4] rfl (by (try simp only [List.map_toArray, List.map_cons, List.map_nil]); first | done | rfl | (simp only [List.length_drop, List.length_take]; rfl)) ?_; (with_reducible refine (impl_beginning.calls kj7 _ _ l0_4 _ _ l1_4 false _ ?side1 ?side2 ?side3 ?side4 A18.out).mono ?_); (case side1 => repeat (first | exact (Kd.C_below HR0_4.out HB.out) | (with_reducible refine Kd.C_alloc ?_ _) | (with_reducible refine Kd.C_drewN ?_ _) | (with_reducible refine Kd.C_drew ?_))); (case side2 => exact HC0_4.out); (case side3 => repeat (first | exact (Kd.C_below HR1_4.out HB.out) | (with_reducible refine Kd.C_alloc ?_ _) | (with_reducible refine Kd.C_drewN ?_ _) | (with_reducible refine Kd.C_drew ?_))); (case side4 => exact HC1_4.out); rintro e w' ⟨rfl, ⟨nd, rfl⟩⟩; refine ⟨_, rfl, ?_⟩) | (go_at_call 80; (with_reducible refine (impl_beginning.calls kj7 _ _ l1_4 _ _ l0_4 false _ ?side1 ?side2 ?side3 ?side4 A23.out).mono ?_); (case side1 => repeat (first | exact (Kd.C_below HR1_4.out (by repeat (first | (with_reducible first | exact HB.out | apply below_alloc | apply pw_below_drewN | apply below_drew1 | refine below_set ?_ GE183.out | refine below_set ?_ GE184.out) | exact HB.out))) | (with_reducible refine Kd.C_alloc ?_ _) | (with_reducible refine Kd.C_drewN ?_ _) | (with_reducible refine Kd.C_drew ?_))); (case side2 => exact HC1_4.out); (case side3 => repeat (first | exact (Kd.C_below HR0_4.out (by repeat (first | (with_reducible first | exact HB.out | apply below_alloc | apply pw_below_drewN | apply below_drew1 | refine below_set ?_ GE183.out | refine below_set ?_ GE184.out) | exact HB.out))) | (with_reducible refine Kd.C_alloc ?_ _) | (with_reducible refine Kd.C_drewN ?_ _) | (with_reducible refine Kd.C_drew ?_))); (case side4 => exact HC0_4.out); rintro e w' ⟨rfl, ⟨nd, rfl⟩⟩) | (go_at_call 80; (with_reducible refine (impl_beginning.calls kj7 _ _ l0_4 _ _ l1_4 true _ ?side1 ?side2 ?side3 ?side4 A30.out).mono ?_); (case side1 => repeat (first | exact (Kd.C_below HR0_4.out (by repeat (first | (with_reducible first | exact HB.out | apply below_alloc | apply pw_below_drewN | apply below_drew1 | refine below_set ?_ GE183.out | refine below_set ?_ GE184.out) | exact HB.out))) | (with_reducible refine Kd.C_alloc ?_ _) | (with_reducible refine Kd.C_drewN ?_ _) | (with_reducible refine Kd.C_drew ?_))); (case side2 => exact HC0_4.out); (case side3 => repeat (first | exact (Kd.C_below HR1_4.out (by repeat (first | (with_reducible first | exact HB.out | apply below_alloc | apply pw_below_drewN | apply below_drew1 | refine below_set ?_ GE183.out | refine below_set ?_ GE184.out) | exact HB.out))) | (with_reducible refine Kd.C_alloc ?_ _) | (with_reducible refine Kd.C_drewN ?_ _) | (with_reducible refine Kd.C_drew ?_))); (case side4 => exact HC1_4.out); rintro e w' ⟨rfl, ⟨nd, rfl⟩⟩))
                      go_ret
                      exact ⟨by first | rfl | (simp [errW_none, errW_some] <;> rfl) | (simp [*, errW_none, errW_some] <;> rfl), by repeat (first | (with_reducible first | exact HB.out | apply below_alloc | apply pw_below_drewN | apply below_drew1 | refine below_set ?_ GE183.out | refine below_set ?_ GE184.out) | exact HB.out)⟩
                    · replace c32 := Bool.eq_false_iff.mpr c32
                      subst c32
                      have H1 : (if a0_2 = 0 then (some (false == a1_1 && (a0_2 == a1_2 && (a0_3 == a1_3)))) else (some true)) = some r := by rw [if_neg (show ¬ (false = true) by decide)] at H; exact H
                      clear H
                      have H := H1
                      clear H1
                      by_cases c36 : a0_2 = 0
                      · rw [if_pos c36] at H
                        have c36b0 : (a0_2 == 0) = true := beq_iff_eq.mpr c36
                        have c36b1 : (a0_2 != 0) = false := bne_eq_false_iff_eq.mpr c36
                        clear c36
                        obtain rfl := Option.some.inj H
                        have hnb37 := NB183_184.out
                        have hnc37 := NB184_183.out
                        have hcz38_0 : wc.cell? ⟨gb183, 0, none⟩ = some (.int .i64 a0_0) := (blk_cell BK183.out 0).trans rfl
                        have hcz38_1 : wc.cell? ⟨gb183, 1, none⟩ = some (.bool false) := (blk_cell BK183.out 1).trans rfl
                        have hcz38_2 : wc.cell? ⟨gb183, 2, none⟩ = some (.int .i64 a0_2) := (blk_cell BK183.out 2).trans rfl
                        have hcz38_3 : wc.cell? ⟨gb183, 3, none⟩ = some (.int .u64 a0_3) := (blk_cell BK183.out 3).trans rfl
                        have hcz38_4 : wc.cell? ⟨gb183, 4, none⟩ = some (.slice A0_4 l0_4.length c0_4) := (blk_cell BK183.out 4).trans rfl
                        have hcz38_5 : wc.cell? ⟨gb183, 5, none⟩ = some (.int .i64 a0_5) := (blk_cell BK183.out 5).trans rfl
                        have hfz38_0 := blk_frozen BK183.out 0
                        have hfz38_1 := blk_frozen BK183.out 1
                        have hfz38_2 := blk_frozen BK183.out 2
                        have hfz38_3 := blk_frozen BK183.out 3
                        have hfz38_4 := blk_frozen BK183.out 4
                        have hfz38_5 := blk_frozen BK183.out 5
                        have hcz39_0 : wc.cell? ⟨gb184, 0, none⟩ = some (.int .i64 a1_0) := (blk_cell BK184.out 0).trans rfl
                        have hcz39_1 : wc.cell? ⟨gb184, 1, none⟩ = some (.bool a1_1) := (blk_cell BK184.out 1).trans rfl
                        have hcz39_2 : wc.cell? ⟨gb184, 2, none⟩ = some (.int .i64 a1_2) := (blk_cell BK184.out 2).trans rfl
                        have hcz39_3 : wc.cell? ⟨gb184, 3, none⟩ = some (.int .u64 a1_3) := (blk_cell BK184.out 3).trans rfl
                        have hcz39_4 : wc.cell? ⟨gb184, 4, none⟩ = some (.slice A1_4 l1_4.length c1_4) := (blk_cell BK184.out 4).trans rfl
                        have hcz39_5 : wc.cell? ⟨gb184, 5, none⟩ = some (.int .i64 a1_5) := (blk_cell BK184.out 5).trans rfl
                        have hfz39_0 := blk_frozen BK184.out 0
                        have hfz39_1 := blk_frozen BK184.out 1
                        have hfz39_2 := blk_frozen BK184.out 2
                        have hfz39_3 := blk_frozen BK184.out 3
                        have hfz39_4 := blk_frozen BK184.out 4
                        have hfz39_5 := blk_frozen BK184.out 5
                        go_wp2_with (first | ((with_reducible refine gate_callee (f := 80) rfl ?_); refine goesL_ (some 20) rfl rfl Try.func80 (by kernel_rfl) rfl #[.slice A0_4 l0_4.length c0_4, .slice A1_4 l1_4.length c1_4] rfl (by (try simp only [List.map_toArray, List.map_cons, List.map_nil]); first | done | rfl | (simp only [List.length_drop, List.length_take]; rfl)) ?_; (with_reducible refine (impl_beginning.calls kj7 _ _ l0_4 _ _ l1_4 false _ ?side1 ?side2 ?side3 ?side4 A18.out).mono ?_); (case side1 => repeat (first | exact (Kd.C_below HR0_4.out HB.out) | (with_reducible refine Kd.C_alloc ?_ _) | (with_reducible refine Kd.C_drewN ?_ _) | (with_reducible refine Kd.C_drew ?_))); (case side2 => exact HC0_4.out); (case side3 => repeat (first | exact (Kd.C_below HR1_4.out HB.out) | (with_reducible refine Kd.C_alloc ?_ _) | (with_reducible refine Kd.C_drewN ?_ _) | (with_reducible refine Kd.C_drew ?_))); (case side4 => exact HC1_4.out); rintro e w' ⟨rfl, ⟨nd, rfl⟩⟩; refine ⟨_, rfl, ?_⟩) | (go_at_call 80; (with_reducible refine (impl_beginning.calls kj7 _ _ l1_4 _ _ l0_4 false _ ?side1 ?side2 ?side3 ?side4 A23.out).mono ?_); (case side1 => repeat (first | exact (Kd.C_below HR1_4.out (by repeat (first | (with_reducible first | exact HB.out | apply below_alloc | apply pw_below_drewN | apply below_drew1 | refine below_set ?_ GE183.out | refine below_set ?_ GE184.out) | exact HB.out))) | (with_reducible refine Kd.C_alloc ?_ _) | (with_reducible refine Kd.C_drewN ?_ _) | (with_reducible refine Kd.C_drew ?_))); (case side2 => exact HC1_4.out); (case side3 => repeat (first | exact (Kd.C_below HR0_4.out (by repeat (first | (with_reducible first | exact HB.out | apply below_alloc | apply pw_below_drewN | apply below_drew1 | refine below_set ?_ GE183.out | refine below_set ?_ GE184.out) | exact HB.out))) | (with_reducible refine Kd.C_alloc ?_ _) | (with_reducible refine Kd.C_drewN ?_ _) | (with_reducible refine Kd.C_drew ?_))); (case side4 => exact HC0_4.out); rintro e w' ⟨rfl, ⟨nd, rfl⟩⟩) | (go_at_call 80; (with_reducible refine (impl_beginning.calls kj7 _ _ l0_4 _ _ l1_4 true _ ?side1 ?side2 ?side3 ?side4 A30.out).mono ?_); (case side1 => repeat (first | exact (Kd.C_below HR0_4.out (by repeat (first | (with_reducible first | exact HB.out | apply below_alloc | apply pw_below_drewN | apply below_drew1 | refine below_set ?_ GE183.out | refine below_set ?_ GE184.out) | exact HB.out))) | (with_reducible refine Kd.C_alloc ?_ _) | (with_reducible refine Kd.C_drewN ?_ _) | (with_reducible refine Kd.C_drew ?_))); (case side2 => exact HC0_4.out); (case side3 => repeat (first | exact (Kd.C_below HR1_4.out (by repeat (first | (with_reducible first | exact HB.out | apply below_alloc | apply pw_below_drewN | apply below_drew1 | refine below_set ?_ GE183.out | refine below_set ?_ GE184.out) | exact HB.out))) | (with_reducible refine Kd.C_alloc ?_ _) | (with_reducible refine Kd.C_drewN ?_ _) | (with_reducible refine Kd.C_drew ?_))); (case side4 => exact HC1_4.out); rintro e w' ⟨rfl, ⟨nd, rfl⟩⟩))
                        go_ret
                        exact ⟨by first | rfl | (simp [errW_none, errW_some] <;> rfl) | (simp [*, errW_none, errW_some] <;> rfl), by repeat (first | (with_reducible first | exact HB.out | apply below_alloc | apply pw_below_drewN | apply below_drew1 | refine below_set ?_ GE183.out | refine below_set ?_ GE184.out) | exact HB.out)⟩
                      · rw [if_neg c36] at H
                        have c36b0 : (a0_2 == 0) = false := beq_eq_false_iff_ne.mpr c36
                        have c36b1 : (a0_2 != 0) = true := bne_iff_ne.mpr c36
                        obtain rfl := Option.some.inj H
                        have hnb40 := NB183_184.out
                        have hnc40 := NB184_183.out
                        have hcz41_0 : wc.cell? ⟨gb183, 0, none⟩ = some (.int .i64 a0_0) := (blk_cell BK183.out 0).trans rfl
                        have hcz41_1 : wc.cell? ⟨gb183, 1, none⟩ = some (.bool false) := (blk_cell BK183.out 1).trans rfl
                        have hcz41_2 : wc.cell? ⟨gb183, 2, none⟩ = some (.int .i64 a0_2) := (blk_cell BK183.out 2).trans rfl
                        have hcz41_3 : wc.cell? ⟨gb183, 3, none⟩ = some (.int .u64 a0_3) := (blk_cell BK183.out 3).trans rfl
                        have hcz41_4 : wc.cell? ⟨gb183, 4, none⟩ = some (.slice A0_4 l0_4.length c0_4) := (blk_cell BK183.out 4).trans rfl
                        have hcz41_5 : wc.cell? ⟨gb183, 5, none⟩ = some (.int .i64 a0_5) := (blk_cell BK183.out 5).trans rfl
                        have hfz41_0 := blk_frozen BK183.out 0
                        have hfz41_1 := blk_frozen BK183.out 1
                        have hfz41_2 := blk_frozen BK183.out 2
                        have hfz41_3 := blk_frozen BK183.out 3
                        have hfz41_4 := blk_frozen BK183.out 4
                        have hfz41_5 := blk_frozen BK183.out 5
                        have hcz42_0 : wc.cell? ⟨gb184, 0, none⟩ = some (.int .i64 a1_0) := (blk_cell BK184.out 0).trans rfl
                        have hcz42_1 : wc.cell? ⟨gb184, 1, none⟩ = some (.bool a1_1) := (blk_cell BK184.out 1).trans rfl
                        have hcz42_2 : wc.cell? ⟨gb184, 2, none⟩ = some (.int .i64 a1_2) := (blk_cell BK184.out 2).trans rfl
                        have hcz42_3 : wc.cell? ⟨gb184, 3, none⟩ = some (.int .u64 a1_3) := (blk_cell BK184.out 3).trans rfl
                        have hcz42_4 : wc.cell? ⟨gb184, 4, none⟩ = some (.slice A1_4 l1_4.length c1_4) := (blk_cell BK184.out 4).trans rfl
                        have hcz42_5 : wc.cell? ⟨gb184, 5, none⟩ = some (.int .i64 a1_5) := (blk_cell BK184.out 5).trans rfl
                        have hfz42_0 := blk_frozen BK184.out 0
                        have hfz42_1 := blk_frozen BK184.out 1
                        have hfz42_2 := blk_frozen BK184.out 2
                        have hfz42_3 := blk_frozen BK184.out 3
                        have hfz42_4 := blk_frozen BK184.out 4
                        have hfz42_5 := blk_frozen BK184.out 5
                        go_wp2_with (first | ((with_reducible refine gate_callee (f := 80) rfl ?_); refine goesL_ (some 20) rfl rfl Try.func80 (by kernel_rfl) rfl #[.slice A0_4 l0_4.length c0_4, .slice A1_4 l1_4.length c1_4] rfl (by (try simp only [List.map_toArray, List.map_cons, List.map_nil]); first | done | rfl | (simp only [List.length_drop, List.length_take]; rfl)) ?_; (with_reducible refine (impl_beginning.calls kj7 _ _ l0_4 _ _ l1_4 false _ ?side1 ?side2 ?side3 ?side4 A18.out).mono ?_); (case side1 => repeat (first | exact (Kd.C_below HR0_4.out HB.out) | (with_reducible refine Kd.C_alloc ?_ _) | (with_reducible refine Kd.C_drewN ?_ _) | (with_reducible refine Kd.C_drew ?_))); (case side2 => exact HC0_4.out); (case side3 => repeat (first | exact (Kd.C_below HR1_4.out HB.out) | (with_reducible refine Kd.C_alloc ?_ _) | (with_reducible refine Kd.C_drewN ?_ _) | (with_reducible refine Kd.C_drew ?_))); (case side4 => exact HC1_4.out); rintro e w' ⟨rfl, ⟨nd, rfl⟩⟩; refine ⟨_, rfl, ?_⟩) | (go_at_call 80; (with_reducible refine (impl_beginning.calls kj7 _ _ l1_4 _ _ l0_4 false _ ?side1 ?side2 ?side3 ?side4 A23.out).mono ?_); (case side1 => repeat (first | exact (Kd.C_below HR1_4.out (by repeat (first | (with_reducible first | exact HB.out | apply below_alloc | apply pw_below_drewN | apply below_drew1 | refine below_set ?_ GE183.out | refine below_set ?_ GE184.out) | exact HB.out))) | (with_reducible refine Kd.C_alloc ?_ _) | (with_reducible refine Kd.C_drewN ?_ _) | (with_reducible refine Kd.C_drew ?_))); (case side2 => exact HC1_4.out); (case side3 => repeat (first | exact (Kd.C_below HR0_4.out (by repeat (first | (with_reducible first | exact HB.out | apply below_alloc | apply pw_below_drewN | apply below_drew1 | refine below_set ?_ GE183.out | refine below_set ?_ GE184.out) | exact HB.out))) | (with_reducible refine Kd.C_alloc ?_ _) | (with_reducible refine Kd.C_drewN ?_ _) | (with_reducible refine Kd.C_drew ?_))); (case side4 => exact HC0_4.out); rintro e w' ⟨rfl, ⟨nd, rfl⟩⟩) | (go_at_call 80; (with_reducible refine (impl_beginning.calls kj7 _ _ l0_4 _ _ l1_4 true _ ?side1 ?side2 ?side3 ?side4 A30.out).mono ?_); (case side1 => repeat (first | exact (Kd.C_below HR0_4.out (by repeat (first | (with_reducible first | exact HB.out | apply below_alloc | apply pw_below_drewN | apply below_drew1 | refine below_set ?_ GE183.out | refine below_set ?_ GE184.out) | exact HB.out))) | (with_reducible refine Kd.C_alloc ?_ _) | (with_reducible refine Kd.C_drewN ?_ _) | (with_reducible refine Kd.C_drew ?_))); (case side2 => exact HC0_4.out); (case side3 => repeat (first | exact (Kd.C_below HR1_4.out (by repeat (first | (with_reducible first | exact HB.out | apply below_alloc | apply pw_below_drewN | apply below_drew1 | refine below_set ?_ GE183.out | refine below_set ?_ GE184.out) | exact HB.out))) | (with_reducible refine Kd.C_alloc ?_ _) | (with_reducible refine Kd.C_drewN ?_ _) | (with_reducible refine Kd.C_drew ?_))); (case side4 => exact HC1_4.out); rintro e w' ⟨rfl, ⟨nd, rfl⟩⟩))
                        go_ret
                        exact ⟨by first | rfl | (simp [errW_none, errW_some] <;> rfl) | (simp [*, errW_none, errW_some] <;> rfl), by repeat (first | (with_reducible first | exact HB.out | apply below_alloc | apply pw_below_drewN | apply below_drew1 | refine below_set ?_ GE183.out | refine below_set ?_ GE184.out) | exact HB.out)⟩
                  · replace c31 := Bool.eq_false_iff.mpr c31
                    subst c31
                    have H1 : (some false) = some r := by rw [if_neg (show ¬ (false = true) by decide)] at H; exact H
                    clear H
                    have H := H1
                    clear H1
                    obtain rfl := Option.some.inj H
                    have hnb43 := NB183_184.out
                    have hnc43 := NB184_183.out
                    have hcz44_0 : wc.cell? ⟨gb183, 0, none⟩ = some (.int .i64 a0_0) := (blk_cell BK183.out 0).trans rfl
                    have hcz44_1 : wc.cell? ⟨gb183, 1, none⟩ = some (.bool a0_1) := (blk_cell BK183.out 1).trans rfl
                    have hcz44_2 : wc.cell? ⟨gb183, 2, none⟩ = some (.int .i64 a0_2) := (blk_cell BK183.out 2).trans rfl
                    have hcz44_3 : wc.cell? ⟨gb183, 3, none⟩ = some (.int .u64 a0_3) := (blk_cell BK183.out 3).trans rfl
                    have hcz44_4 : wc.cell? ⟨gb183, 4, none⟩ = some (.slice A0_4 l0_4.length c0_4) := (blk_cell BK183.out 4).trans rfl
                    have hcz44_5 : wc.cell? ⟨gb183, 5, none⟩ = some (.int .i64 a0_5) := (blk_cell BK183.out 5).trans rfl
                    have hfz44_0 := blk_frozen BK183.out 0
                    have hfz44_1 := blk_frozen BK183.out 1
                    have hfz44_2 := blk_frozen BK183.out 2
                    have hfz44_3 := blk_frozen BK183.out 3
                    have hfz44_4 := blk_frozen BK183.out 4
                    have hfz44_5 := blk_frozen BK183.out 5
                    have hcz45_0 : wc.cell? ⟨gb184, 0, none⟩ = some (.int .i64 a1_0) := (blk_cell BK184.out 0).trans rfl
                    have hcz45_1 : wc.cell? ⟨gb184, 1, none⟩ = some (.bool a1_1) := (blk_cell BK184.out 1).trans rfl
                    have hcz45_2 : wc.cell? ⟨gb184, 2, none⟩ = some (.int .i64 a1_2) := (blk_cell BK184.out 2).trans rfl
                    have hcz45_3 : wc.cell? ⟨gb184, 3, none⟩ = some (.int .u64 a1_3) := (blk_cell BK184.out 3).trans rfl
                    have hcz45_4 : wc.cell? ⟨gb184, 4, none⟩ = some (.slice A1_4 l1_4.length c1_4) := (blk_cell BK184.out 4).trans rfl
                    have hcz45_5 : wc.cell? ⟨gb184, 5, none⟩ = some (.int .i64 a1_5) := (blk_cell BK184.out 5).trans rfl
                    have hfz45_0 := blk_frozen BK184.out 0
                    have hfz45_1 := blk_frozen BK184.out 1
                    have hfz45_2 := blk_frozen BK184.out 2
                    have hfz45_3 := blk_frozen BK184.out 3
                    have hfz45_4 := blk_frozen BK184.out 4
                    have hfz45_5 := blk_frozen BK184.out 5
                    go_wp2_with (first | ((with_reducible refine gate_callee (f := 80) rfl ?_); refine goesL_ (some 20) rfl rfl Try.func80 (by kernel_rfl) rfl #[.slice A0_4 l0_4.length c0_4, .slice A1_4 l1_4.length c1_4] rfl (by (try simp only [List.map_toArray, List.map_cons, List.map_nil]); first | done | rfl | (simp only [List.length_drop, List.length_take]; rfl)) ?_; (with_reducible refine (impl_beginning.calls kj7 _ _ l0_4 _ _ l1_4 false _ ?side1 ?side2 ?side3 ?side4 A18.out).mono ?_); (case side1 => repeat (first | exact (Kd.C_below HR0_4.out HB.out) | (with_reducible refine Kd.C_alloc ?_ _) | (with_reducible refine Kd.C_drewN ?_ _) | (with_reducible refine Kd.C_drew ?_))); (case side2 => exact HC0_4.out); (case side3 => repeat (first | exact (Kd.C_below HR1_4.out HB.out) | (with_reducible refine Kd.C_alloc ?_ _) | (with_reducible refine Kd.C_drewN ?_ _) | (with_reducible refine Kd.C_drew ?_))); (case side4 => exact HC1_4.out); rintro e w' ⟨rfl, ⟨nd, rfl⟩⟩; refine ⟨_, rfl, ?_⟩) | (go_at_call 80; (with_reducible refine (impl_beginning.calls kj7 _ _ l1_4 _ _ l0_4 false _ ?side1 ?side2 ?side3 ?side4 A23.out).mono ?_); (case side1 => repeat (first | exact (Kd.C_below HR1_4.out (by repeat (first | (with_reducible first | exact HB.out | apply below_alloc | apply pw_below_drewN | apply below_drew1 | refine below_set ?_ GE183.out | refine below_set ?_ GE184.out) | exact HB.out))) | (with_reducible refine Kd.C_alloc ?_ _) | (with_reducible refine Kd.C_drewN ?_ _) | (with_reducible refine Kd.C_drew ?_))); (case side2 => exact HC1_4.out); (case side3 => repeat (first | exact (Kd.C_below HR0_4.out (by repeat (first | (with_reducible first | exact HB.out | apply below_alloc | apply pw_below_drewN | apply below_drew1 | refine below_set ?_ GE183.out | refine below_set ?_ GE184.out) | exact HB.out))) | (with_reducible refine Kd.C_alloc ?_ _) | (with_reducible refine Kd.C_drewN ?_ _) | (with_reducible refine Kd.C_drew ?_))); (case side4 => exact HC0_4.out); rintro e w' ⟨rfl, ⟨nd, rfl⟩⟩) | (go_at_call 80; (with_reducible refine (impl_beginning.calls kj7 _ _ l0_4 _ _ l1_4 false _ ?side1 ?side2 ?side3 ?side4 A30.out).mono ?_); (case side1 => repeat (first | exact (Kd.C_below HR0_4.out (by repeat (first | (with_reducible first | exact HB.out | apply below_alloc | apply pw_below_drewN | apply below_drew1 | refine below_set ?_ GE183.out | refine below_set ?_ GE184.out) | exact HB.out))) | (with_reducible refine Kd.C_alloc ?_ _) | (with_reducible refine Kd.C_drewN ?_ _) | (with_reducible refine Kd.C_drew ?_))); (case side2 => exact HC0_4.out); (case side3 => repeat (first | exact (Kd.C_below HR1_4.out (by repeat (first | (with_reducible first | exact HB.out | apply below_alloc | apply pw_below_drewN | apply below_drew1 | refine below_set ?_ GE183.out | refine below_set ?_ GE184.out) | exact HB.out))) | (with_reducible refine Kd.C_alloc ?_ _) | (with_reducible refine Kd.C_drewN ?_ _) | (with_reducible refine Kd.C_drew ?_))); (case side4 => exact HC1_4.out); rintro e w' ⟨rfl, ⟨nd, rfl⟩⟩))
                    go_ret
                    exact ⟨by first | rfl | (simp [errW_none, errW_some] <;> rfl) | (simp [*, errW_none, errW_some] <;> rfl), by repeat (first | (with_reducible first | exact HB.out | apply below_alloc | apply pw_below_drewN | apply below_drew1 | refine below_set ?_ GE183.out | refine below_set ?_ GE184.out) | exact HB.out)⟩
                · rw [if_neg c29] at H
                  have c29b0 : ((l0_4.length : Int) == (l1_4.length : Int)) = false := beq_eq_false_iff_ne.mpr c29
                  have c29b1 : ((l0_4.length : Int) != (l1_4.length : Int)) = true := bne_iff_ne.mpr c29
                  have c29b2 : (l0_4.length == l1_4.length) = false := by first | simpa using c29 | (simp at c29 ⊢; omega)
                  obtain rfl := Option.some.inj H
                  have hnb46 := NB183_184.out
                  have hnc46 := NB184_183.out
                  have hcz47_0 : wc.cell? ⟨gb183, 0, none⟩ = some (.int .i64 a0_0) := (blk_cell BK183.out 0).trans rfl
                  have hcz47_1 : wc.cell? ⟨gb183, 1, none⟩ = some (.bool a0_1) := (blk_cell BK183.out 1).trans rfl
                  have hcz47_2 : wc.cell? ⟨gb183, 2, none⟩ = some (.int .i64 a0_2) := (blk_cell BK183.out 2).trans rfl
                  have hcz47_3 : wc.cell? ⟨gb183, 3, none⟩ = some (.int .u64 a0_3) := (blk_cell BK183.out 3).trans rfl
                  have hcz47_4 : wc.cell? ⟨gb183, 4, none⟩ = some (.slice A0_4 l0_4.length c0_4) := (blk_cell BK183.out 4).trans rfl
                  have hcz47_5 : wc.cell? ⟨gb183, 5, none⟩ = some (.int .i64 a0_5) := (blk_cell BK183.out 5).trans rfl
                  have hfz47_0 := blk_frozen BK183.out 0
                  have hfz47_1 := blk_frozen BK183.out 1
                  have hfz47_2 := blk_frozen BK183.out 2
                  have hfz47_3 := blk_frozen BK183.out 3
                  have hfz47_4 := blk_frozen BK183.out 4
                  have hfz47_5 := blk_frozen BK183.out 5
                  have hcz48_0 : wc.cell? ⟨gb184, 0, none⟩ = some (.int .i64 a1_0) := (blk_cell BK184.out 0).trans rfl
                  have hcz48_1 : wc.cell? ⟨gb184, 1, none⟩ = some (.bool a1_1) := (blk_cell BK184.out 1).trans rfl
                  have hcz48_2 : wc.cell? ⟨gb184, 2, none⟩ = some (.int .i64 a1_2) := (blk_cell BK184.out 2).trans rfl
                  have hcz48_3 : wc.cell? ⟨gb184, 3, none⟩ = some (.int .u64 a1_3) := (blk_cell BK184.out 3).trans rfl
                  have hcz48_4 : wc.cell? ⟨gb184, 4, none⟩ = some (.slice A1_4 l1_4.length c1_4) := (blk_cell BK184.out 4).trans rfl
                  have hcz48_5 : wc.cell? ⟨gb184, 5, none⟩ = some (.int .i64 a1_5) := (blk_cell BK184.out 5).trans rfl
                  have hfz48_0 := blk_frozen BK184.out 0
                  have hfz48_1 := blk_frozen BK184.out 1
                  have hfz48_2 := blk_frozen BK184.out 2
                  have hfz48_3 := blk_frozen BK184.out 3
                  have hfz48_4 := blk_frozen BK184.out 4
                  have hfz48_5 := blk_frozen BK184.out 5
                  go_wp2_with (first | ((with_reducible refine gate_callee (f := 80) rfl ?_); refine goesL_ (some 20) rfl rfl Try.func80 (by kernel_rfl) rfl #[.slice A0_4 l0_4.length c0_4, .slice A1_4 l1_4.length c1_4] rfl (by (try simp only [List.map_toArray, List.map_cons, List.map_nil]); first | done | rfl | (simp only [List.length_drop, List.length_take]; rfl)) ?_; (with_reducible refine (impl_beginning.calls kj7 _ _ l0_4 _ _ l1_4 false _ ?side1 ?side2 ?side3 ?side4 A18.out).mono ?_); (case side1 => repeat (first | exact (Kd.C_below HR0_4.out HB.out) | (with_reducible refine Kd.C_alloc ?_ _) | (with_reducible refine Kd.C_drewN ?_ _) | (with_reducible refine Kd.C_drew ?_))); (case side2 => exact HC0_4.out); (case side3 => repeat (first | exact (Kd.C_below HR1_4.out HB.out) | (with_reducible refine Kd.C_alloc ?_ _) | (with_reducible refine Kd.C_drewN ?_ _) | (with_reducible refine Kd.C_drew ?_))); (case side4 => exact HC1_4.out); rintro e w' ⟨rfl, ⟨nd, rfl⟩⟩; refine ⟨_, rfl, ?_⟩) | (go_at_call 80; (with_reducible refine (impl_beginning.calls kj7 _ _ l1_4 _ _ l0_4 false _ ?side1 ?side2 ?side3 ?side4 A23.out).mono ?_); (case side1 => repeat (first | exact (Kd.C_below HR1_4.out (by repeat (first | (with_reducible first | exact HB.out | apply below_alloc | apply pw_below_drewN | apply below_drew1 | refine below_set ?_ GE183.out | refine below_set ?_ GE184.out) | exact HB.out))) | (with_reducible refine Kd.C_alloc ?_ _) | (with_reducible refine Kd.C_drewN ?_ _) | (with_reducible refine Kd.C_drew ?_))); (case side2 => exact HC1_4.out); (case side3 => repeat (first | exact (Kd.C_below HR0_4.out (by repeat (first | (with_reducible first | exact HB.out | apply below_alloc | apply pw_below_drewN | apply below_drew1 | refine below_set ?_ GE183.out | refine below_set ?_ GE184.out) | exact HB.out))) | (with_reducible refine Kd.C_alloc ?_ _) | (with_reducible refine Kd.C_drewN ?_ _) | (with_reducible refine Kd.C_drew ?_))); (case side4 => exact HC0_4.out); rintro e w' ⟨rfl, ⟨nd, rfl⟩⟩))
                  go_ret
                  exact ⟨by first | rfl | (simp [errW_none, errW_some] <;> rfl) | (simp [*, errW_none, errW_some] <;> rfl), by repeat (first | (with_reducible first | exact HB.out | apply below_alloc | apply pw_below_drewN | apply below_drew1 | refine below_set ?_ GE183.out | refine below_set ?_ GE184.out) | exact HB.out)⟩
              · rw [if_neg c28] at H
                have c28b0 : (a0_0 == a1_0) = false := beq_eq_false_iff_ne.mpr c28
                have c28b1 : (a0_0 != a1_0) = true := bne_iff_ne.mpr c28
                obtain rfl := Option.some.inj H
                have hnb49 := NB183_184.out
                have hnc49 := NB184_183.out
                have hcz50_0 : wc.cell? ⟨gb183, 0, none⟩ = some (.int .i64 a0_0) := (blk_cell BK183.out 0).trans rfl
                have hcz50_1 : wc.cell? ⟨gb183, 1, none⟩ = some (.bool a0_1) := (blk_cell BK183.out 1).trans rfl
                have hcz50_2 : wc.cell? ⟨gb183, 2, none⟩ = some (.int .i64 a0_2) := (blk_cell BK183.out 2).trans rfl
                have hcz50_3 : wc.cell? ⟨gb183, 3, none⟩ = some (.int .u64 a0_3) := (blk_cell BK183.out 3).trans rfl
                have hcz50_4 : wc.cell? ⟨gb183, 4, none⟩ = some (.slice A0_4 l0_4.length c0_4) := (blk_cell BK183.out 4).trans rfl
                have hcz50_5 : wc.cell? ⟨gb183, 5, none⟩ = some (.int .i64 a0_5) := (blk_cell BK183.out 5).trans rfl
                have hfz50_0 := blk_frozen BK183.out 0
                have hfz50_1 := blk_frozen BK183.out 1
                have hfz50_2 := blk_frozen BK183.out 2
                have hfz50_3 := blk_frozen BK183.out 3
                have hfz50_4 := blk_frozen BK183.out 4
                have hfz50_5 := blk_frozen BK183.out 5
                have hcz51_0 : wc.cell? ⟨gb184, 0, none⟩ = some (.int .i64 a1_0) := (blk_cell BK184.out 0).trans rfl
                have hcz51_1 : wc.cell? ⟨gb184, 1, none⟩ = some (.bool a1_1) := (blk_cell BK184.out 1).trans rfl
                have hcz51_2 : wc.cell? ⟨gb184, 2, none⟩ = some (.int .i64 a1_2) := (blk_cell BK184.out 2).trans rfl
                have hcz51_3 : wc.cell? ⟨gb184, 3, none⟩ = some (.int .u64 a1_3) := (blk_cell BK184.out 3).trans rfl
                have hcz51_4 : wc.cell? ⟨gb184, 4, none⟩ = some (.slice A1_4 l1_4.length c1_4) := (blk_cell BK184.out 4).trans rfl
                have hcz51_5 : wc.cell? ⟨gb184, 5, none⟩ = some (.int .i64 a1_5) := (blk_cell BK184.out 5).trans rfl
                have hfz51_0 := blk_frozen BK184.out 0
                have hfz51_1 := blk_frozen BK184.out 1
                have hfz51_2 := blk_frozen BK184.out 2
                have hfz51_3 := blk_frozen BK184.out 3
                have hfz51_4 := blk_frozen BK184.out 4
                have hfz51_5 := blk_frozen BK184.out 5
                go_wp2_with (first | ((with_reducible refine gate_callee (f := 80) rfl ?_); refine goesL_ (some 20) rfl rfl Try.func80 (by kernel_rfl) rfl #[.slice A0_4 l0_4.length c0_4, .slice A1_4 l1_4.length c1_4] rfl (by (try simp only [List.map_toArray, List.map_cons, List.map_nil]); first | done | rfl | (simp only [List.length_drop, List.length_take]; rfl)) ?_; (with_reducible refine (impl_beginning.calls kj7 _ _ l0_4 _ _ l1_4 false _ ?side1 ?side2 ?side3 ?side4 A18.out).mono ?_); (case side1 => repeat (first | exact (Kd.C_below HR0_4.out HB.out) | (with_reducible refine Kd.C_alloc ?_ _) | (with_reducible refine Kd.C_drewN ?_ _) | (with_reducible refine Kd.C_drew ?_))); (case side2 => exact HC0_4.out); (case side3 => repeat (first | exact (Kd.C_below HR1_4.out HB.out) | (with_reducible refine Kd.C_alloc ?_ _) | (with_reducible refine Kd.C_drewN ?_ _) | (with_reducible refine Kd.C_drew ?_))); (case side4 => exact HC1_4.out); rintro e w' ⟨rfl, ⟨nd, rfl⟩⟩; refine ⟨_, rfl, ?_⟩) | (go_at_call 80; (with_reducible refine (impl_beginning.calls kj7 _ _ l1_4 _ _ l0_4 false _ ?side1 ?side2 ?side3 ?side4 A23.out).mono ?_); (case side1 => repeat (first | exact (Kd.C_below HR1_4.out (by repeat (first | (with_reducible first | exact HB.out | apply below_alloc | apply pw_below_drewN | apply below_drew1 | refine below_set ?_ GE183.out | refine below_set ?_ GE184.out) | exact HB.out))) | (with_reducible refine Kd.C_alloc ?_ _) | (with_reducible refine Kd.C_drewN ?_ _) | (with_reducible refine Kd.C_drew ?_))); (case side2 => exact HC1_4.out); (case side3 => repeat (first | exact (Kd.C_below HR0_4.out (by repeat (first | (with_reducible first | exact HB.out | apply below_alloc | apply pw_below_drewN | apply below_drew1 | refine below_set ?_ GE183.out | refine below_set ?_ GE184.out) | exact HB.out))) | (with_reducible refine Kd.C_alloc ?_ _) | (with_reducible refine Kd.C_drewN ?_ _) | (with_reducible refine Kd.C_drew ?_))); (case side4 => exact HC0_4.out); rintro e w' ⟨rfl, ⟨nd, rfl⟩⟩))
                go_ret
                exact ⟨by first | rfl | (simp [errW_none, errW_some] <;> rfl) | (simp [*, errW_none, errW_some] <;> rfl), by repeat (first | (with_reducible first | exact HB.out | apply below_alloc | apply pw_below_drewN | apply below_drew1 | refine below_set ?_ GE183.out | refine below_set ?_ GE184.out) | exact HB.out)⟩
        · replace c17 := Bool.eq_false_iff.mpr c17
          subst c17
          have H1 : (if a0_0 = a1_0 then (if (l0_4.length : Int) = (l1_4.length : Int) then ((impl_beginning.f kj7 l0_4 l1_4).bind fun t188 => (if t188 = true then (if a0_1 = true then (some true) else (if a0_2 = 0 then (some (a0_1 == a1_1 && (a0_2 == a1_2 && (a0_3 == a1_3)))) else (some true))) else (some false))) else (some false)) else (some false)) = some r := by rw [if_neg (show ¬ (false = true) by decide)] at H; exact H
          clear H
          have H := H1
          clear H1
          by_cases c52 : a0_0 = a1_0
          · rw [if_pos c52] at H
            have c52b0 : (a0_0 == a1_0) = true := beq_iff_eq.mpr c52
            have c52b1 : (a0_0 != a1_0) = false := bne_eq_false_iff_eq.mpr c52
            clear c52
            by_cases c53 : (l0_4.length : Int) = (l1_4.length : Int)
            · rw [if_pos c53] at H
              have c53b0 : ((l0_4.length : Int) == (l1_4.length : Int)) = true := beq_iff_eq.mpr c53
              have c53b1 : ((l0_4.length : Int) != (l1_4.length : Int)) = false := bne_eq_false_iff_eq.mpr c53
              have c53b2 : (l0_4.length == l1_4.length) = true := by first | simpa using c53 | (simp at c53 ⊢; omega)
              clear c53
              replace H := Option.bind_eq_some_iff.mp H
              obtain ⟨t188, A540, H⟩ := H
              replace H : (if t188 = true then (if a0_1 = true then (some true) else (if a0_2 = 0 then (some (a0_1 == a1_1 && (a0_2 == a1_2 && (a0_3 == a1_3)))) else (some true))) else (some false)) = some r := H
              have A54 := Aside0.mk A540
              clear A540
              by_cases c55 : t188 = true
              · subst c55
                have H1 : (if a0_1 = true then (some true) else (if a0_2 = 0 then (some (a0_1 == a1_1 && (a0_2 == a1_2 && (a0_3 == a1_3)))) else (some true))) = some r := by rw [if_pos rfl] at H; exact H
                clear H
                have H := H1
                clear H1
                by_cases c56 : a0_1 = true
                · subst c56
                  have H1 : (some true) = some r := by rw [if_pos rfl] at H; exact H
                  clear H
                  have H := H1
                  clear H1
                  obtain rfl := Option.some.inj H
                  have hnb57 := NB183_184.out
                  have hnc57 := NB184_183.out
                  have hcz58_0 : wc.cell? ⟨gb183, 0, none⟩ = some (.int .i64 a0_0) := (blk_cell BK183.out 0).trans rfl
                  have hcz58_1 : wc.cell? ⟨gb183, 1, none⟩ = some (.bool true) := (blk_cell BK183.out 1).trans rfl
                  have hcz58_2 : wc.cell? ⟨gb183, 2, none⟩ = some (.int .i64 a0_2) := (blk_cell BK183.out 2).trans rfl
                  have hcz58_3 : wc.cell? ⟨gb183, 3, none⟩ = some (.int .u64 a0_3) := (blk_cell BK183.out 3).trans rfl
                  have hcz58_4 : wc.cell? ⟨gb183, 4, none⟩ = some (.slice A0_4 l0_4.length c0_4) := (blk_cell BK183.out 4).trans rfl
                  have hcz58_5 : wc.cell? ⟨gb183, 5, none⟩ = some (.int .i64 a0_5) := (blk_cell BK183.out 5).trans rfl
                  have hfz58_0 := blk_frozen BK183.out 0
                  have hfz58_1 := blk_frozen BK183.out 1
                  have hfz58_2 := blk_frozen BK183.out 2
                  have hfz58_3 := blk_frozen BK183.out 3
                  have hfz58_4 := blk_frozen BK183.out 4
                  have hfz58_5 := blk_frozen BK183.out 5
                  have hcz59_0 : wc.cell? ⟨gb184, 0, none⟩ = some (.int .i64 a1_0) := (blk_cell BK184.out 0).trans rfl
                  have hcz59_1 : wc.cell? ⟨gb184, 1, none⟩ = some (.bool a1_1) := (blk_cell BK184.out 1).trans rfl
                  have hcz59_2 : wc.cell? ⟨gb184, 2, none⟩ = some (.int .i64 a1_2) := (blk_cell BK184.out 2).trans rfl
                  have hcz59_3 : wc.cell? ⟨gb184, 3, none⟩ = some (.int .u64 a1_3) := (blk_cell BK184.out 3).trans rfl
                  have hcz59_4 : wc.cell? ⟨gb184, 4, none⟩ = some (.slice A1_4 l1_4.length c1_4) := (blk_cell BK184.out 4).trans rfl
                  have hcz59_5 : wc.cell? ⟨gb184, 5, none⟩ = some (.int .i64 a1_5) := (blk_cell BK184.out 5).trans rfl
                  have hfz59_0 := blk_frozen BK184.out 0
                  have hfz59_1 := blk_frozen BK184.out 1
                  have hfz59_2 := blk_frozen BK184.out 2
                  have hfz59_3 := blk_frozen BK184.out 3
                  have hfz59_4 := blk_frozen BK184.out 4
                  have hfz59_5 := blk_frozen BK184.out 5
                  go_wp2_with (first | (go_at_call 80; (with_reducible refine (impl_beginning.calls kj7 _ _ l0_4 _ _ l1_4 true _ ?side1 ?side2 ?side3 ?side4 A54.out).mono ?_); (case side1 => repeat (first | exact (Kd.C_below HR0_4.out HB.out) | (with_reducible refine Kd.C_alloc ?_ _) | (with_reducible refine Kd.C_drewN ?_ _) | (with_reducible refine Kd.C_drew ?_))); (case side2 => exact HC0_4.out); (case side3 => repeat (first | exact (Kd.C_below HR1_4.out HB.out) | (with_reducible refine Kd.C_alloc ?_ _) | (with_reducible refine Kd.C_drewN ?_ _) | (with_reducible refine Kd.C_drew ?_))); (case side4 => exact HC1_4.out); rintro e w' ⟨rfl, ⟨nd, rfl⟩⟩))
                  go_ret
                  exact ⟨by first | rfl | (simp [errW_none, errW_some] <;> rfl) | (simp [*, errW_none, errW_some] <;> rfl), by repeat (first | (with_reducible first | exact HB.out | apply below_alloc | apply pw_below_drewN | apply below_drew1 | refine below_set ?_ GE183.out | refine below_set ?_ GE184.out) | exact HB.out)⟩
                · replace c56 := Bool.eq_false_iff.mpr c56
                  subst c56
                  have H1 : (if a0_2 = 0 then (some (false == a1_1 && (a0_2 == a1_2 && (a0_3 == a1_3)))) else (some true)) = some r := by rw [if_neg (show ¬ (false = true) by decide)] at H; exact H
                  clear H
                  have H := H1
                  clear H1
                  by_cases c60 : a0_2 = 0
                  · rw [if_pos c60] at H
                    have c60b0 : (a0_2 == 0) = true := beq_iff_eq.mpr c60
                    have c60b1 : (a0_2 != 0) = false := bne_eq_false_iff_eq.mpr c60
                    clear c60
                    obtain rfl := Option.some.inj H
                    have hnb61 := NB183_184.out
                    have hnc61 := NB184_183.out
                    have hcz62_0 : wc.cell? ⟨gb183, 0, none⟩ = some (.int .i64 a0_0) := (blk_cell BK183.out 0).trans rfl
                    have hcz62_1 : wc.cell? ⟨gb183, 1, none⟩ = some (.bool false) := (blk_cell BK183.out 1).trans rfl
                    have hcz62_2 : wc.cell? ⟨gb183, 2, none⟩ = some (.int .i64 a0_2) := (blk_cell BK183.out 2).trans rfl
                    have hcz62_3 : wc.cell? ⟨gb183, 3, none⟩ = some (.int .u64 a0_3) := (blk_cell BK183.out 3).trans rfl
                    have hcz62_4 : wc.cell? ⟨gb183, 4, none⟩ = some (.slice A0_4 l0_4.length c0_4) := (blk_cell BK183.out 4).trans rfl
                    have hcz62_5 : wc.cell? ⟨gb183, 5, none⟩ = some (.int .i64 a0_5) := (blk_cell BK183.out 5).trans rfl
                    have hfz62_0 := blk_frozen BK183.out 0
                    have hfz62_1 := blk_frozen BK183.out 1
                    have hfz62_2 := blk_frozen BK183.out 2
                    have hfz62_3 := blk_frozen BK183.out 3
                    have hfz62_4 := blk_frozen BK183.out 4
                    have hfz62_5 := blk_frozen BK183.out 5
                    have hcz63_0 : wc.cell? ⟨gb184, 0, none⟩ = some (.int .i64 a1_0) := (blk_cell BK184.out 0).trans rfl
                    have hcz63_1 : wc.cell? ⟨gb184, 1, none⟩ = some (.bool a1_1) := (blk_cell BK184.out 1).trans rfl
                    have hcz63_2 : wc.cell? ⟨gb184, 2, none⟩ = some (.int .i64 a1_2) := (blk_cell BK184.out 2).trans rfl
                    have hcz63_3 : wc.cell? ⟨gb184, 3, none⟩ = some (.int .u64 a1_3) := (blk_cell BK184.out 3).trans rfl
                    have hcz63_4 : wc.cell? ⟨gb184, 4, none⟩ = some (.slice A1_4 l1_4.length c1_4) := (blk_cell BK184.out 4).trans rfl
                    have hcz63_5 : wc.cell? ⟨gb184, 5, none⟩ = some (.int .i64 a1_5) := (blk_cell BK184.out 5).trans rfl
                    have hfz63_0 := blk_frozen BK184.out 0
                    have hfz63_1 := blk_frozen BK184.out 1
                    have hfz63_2 := blk_frozen BK184.out 2
                    have hfz63_3 := blk_frozen BK184.out 3
                    have hfz63_4 := blk_frozen BK184.out 4
                    have hfz63_5 := blk_frozen BK184.out 5
                    go_wp2_with (first | (go_at_call 80; (with_reducible refine (impl_beginning.calls kj7 _ _ l0_4 _ _ l1_4 true _ ?side1 ?side2 ?side3 ?side4 A54.out).mono ?_); (case side1 => repeat (first | exact (Kd.C_below HR0_4.out HB.out) | (with_reducible refine Kd.C_alloc ?_ _) | (with_reducible refine Kd.C_drewN ?_ _) | (with_reducible refine Kd.C_drew ?_))); (case side2 => exact HC0_4.out); (case side3 => repeat (first | exact (Kd.C_below HR1_4.out HB.out) | (with_reducible refine Kd.C_alloc ?_ _) | (with_reducible refine Kd.C_drewN ?_ _) | (with_reducible refine Kd.C_drew ?_))); (case side4 => exact HC1_4.out); rintro e w' ⟨rfl, ⟨nd, rfl⟩⟩))
                    go_ret
                    exact ⟨by first | rfl | (simp [errW_none, errW_some] <;> rfl) | (simp [*, errW_none, errW_some] <;> rfl), by repeat (first | (with_reducible first | exact HB.out | apply below_alloc | apply pw_below_drewN | apply below_drew1 | refine below_set ?_ GE183.out | refine below_set ?_ GE184.out) | exact HB.out)⟩
                  · rw [if_neg c60] at H
                    have c60b0 : (a0_2 == 0) = false := beq_eq_false_iff_ne.mpr c60
                    have c60b1 : (a0_2 != 0) = true := bne_iff_ne.mpr c60
                    obtain rfl := Option.some.inj H
                    have hnb64 := NB183_184.out
                    have hnc64 := NB184_183.out
                    have hcz65_0 : wc.cell? ⟨gb183, 0, none⟩ = some (.int .i64 a0_0) := (blk_cell BK183.out 0).trans rfl
                    have hcz65_1 : wc.cell? ⟨gb183, 1, none⟩ = some (.bool false) := (blk_cell BK183.out 1).trans rfl
                    have hcz65_2 : wc.cell? ⟨gb183, 2, none⟩ = some (.int .i64 a0_2) := (blk_cell BK183.out 2).trans rfl
                    have hcz65_3 : wc.cell? ⟨gb183, 3, none⟩ = some (.int .u64 a0_3) := (blk_cell BK183.out 3).trans rfl
                    have hcz65_4 : wc.cell? ⟨gb183, 4, none⟩ = some (.slice A0_4 l0_4.length c0_4) := (blk_cell BK183.out 4).trans rfl
                    have hcz65_5 : wc.cell? ⟨gb183, 5, none⟩ = some (.int .i64 a0_5) := (blk_cell BK183.out 5).trans rfl
                    have hfz65_0 := blk_frozen BK183.out 0
                    have hfz65_1 := blk_frozen BK183.out 1
                    have hfz65_2 := blk_frozen BK183.out 2
                    have hfz65_3 := blk_frozen BK183.out 3
                    have hfz65_4 := blk_frozen BK183.out 4
                    have hfz65_5 := blk_frozen BK183.out 5
                    have hcz66_0 : wc.cell? ⟨gb184, 0, none⟩ = some (.int .i64 a1_0) := (blk_cell BK184.out 0).trans rfl
                    have hcz66_1 : wc.cell? ⟨gb184, 1, none⟩ = some (.bool a1_1) := (blk_cell BK184.out 1).trans rfl
                    have hcz66_2 : wc.cell? ⟨gb184, 2, none⟩ = some (.int .i64 a1_2) := (blk_cell BK184.out 2).trans rfl
                    have hcz66_3 : wc.cell? ⟨gb184, 3, none⟩ = some (.int .u64 a1_3) := (blk_cell BK184.out 3).trans rfl
                    have hcz66_4 : wc.cell? ⟨gb184, 4, none⟩ = some (.slice A1_4 l1_4.length c1_4) := (blk_cell BK184.out 4).trans rfl
                    have hcz66_5 : wc.cell? ⟨gb184, 5, none⟩ = some (.int .i64 a1_5) := (blk_cell BK184.out 5).trans rfl
                    have hfz66_0 := blk_frozen BK184.out 0
                    have hfz66_1 := blk_frozen BK184.out 1
                    have hfz66_2 := blk_frozen BK184.out 2
                    have hfz66_3 := blk_frozen BK184.out 3
                    have hfz66_4 := blk_frozen BK184.out 4
                    have hfz66_5 := blk_frozen BK184.out 5
                    go_wp2_with (first | (go_at_call 80; (with_reducible refine (impl_beginning.calls kj7 _ _ l0_4 _ _ l1_4 true _ ?side1 ?side2 ?side3 ?side4 A54.out).mono ?_); (case side1 => repeat (first | exact (Kd.C_below HR0_4.out HB.out) | (with_reducible refine Kd.C_alloc ?_ _) | (with_reducible refine Kd.C_drewN ?_ _) | (with_reducible refine Kd.C_drew ?_))); (case side2 => exact HC0_4.out); (case side3 => repeat (first | exact (Kd.C_below HR1_4.out HB.out) | (with_reducible refine Kd.C_alloc ?_ _) | (with_reducible refine Kd.C_drewN ?_ _) | (with_reducible refine Kd.C_drew ?_))); (case side4 => exact HC1_4.out); rintro e w' ⟨rfl, ⟨nd, rfl⟩⟩))
                    go_ret
                    exact ⟨by first | rfl | (simp [errW_none, errW_some] <;> rfl) | (simp [*, errW_none, errW_some] <;> rfl), by repeat (first | (with_reducible first | exact HB.out | apply below_alloc | apply pw_below_drewN | apply below_drew1 | refine below_set ?_ GE183.out | refine below_set ?_ GE184.out) | exact HB.out)⟩
              · replace c55 := Bool.eq_false_iff.mpr c55
                subst c55
                have H1 : (some false) = some r := by rw [if_neg (show ¬ (false = true) by decide)] at H; exact H
                clear H
                have H := H1
                clear H1
                obtain rfl := Option.some.inj H
                have hnb67 := NB183_184.out
                have hnc67 := NB184_183.out
                have hcz68_0 : wc.cell? ⟨gb183, 0, none⟩ = some (.int .i64 a0_0) := (blk_cell BK183.out 0).trans rfl
                have hcz68_1 : wc.cell? ⟨gb183, 1, none⟩ = some (.bool a0_1) := (blk_cell BK183.out 1).trans rfl
                have hcz68_2 : wc.cell? ⟨gb183, 2, none⟩ = some (.int .i64 a0_2) := (blk_cell BK183.out 2).trans rfl
                have hcz68_3 : wc.cell? ⟨gb183, 3, none⟩ = some (.int .u64 a0_3) := (blk_cell BK183.out 3).trans rfl
                have hcz68_4 : wc.cell? ⟨gb183, 4, none⟩ = some (.slice A0_4 l0_4.length c0_4) := (blk_cell BK183.out 4).trans rfl
                have hcz68_5 : wc.cell? ⟨gb183, 5, none⟩ = some (.int .i64 a0_5) := (blk_cell BK183.out 5).trans rfl
                have hfz68_0 := blk_frozen BK183.out 0
                have hfz68_1 := blk_frozen BK183.out 1
                have hfz68_2 := blk_frozen BK183.out 2
                have hfz68_3 := blk_frozen BK183.out 3
                have hfz68_4 := blk_frozen BK183.out 4
                have hfz68_5 := blk_frozen BK183.out 5
                have hcz69_0 : wc.cell? ⟨gb184, 0, none⟩ = some (.int .i64 a1_0) := (blk_cell BK184.out 0).trans rfl
                have hcz69_1 : wc.cell? ⟨gb184, 1, none⟩ = some (.bool a1_1) := (blk_cell BK184.out 1).trans rfl
                have hcz69_2 : wc.cell? ⟨gb184, 2, none⟩ = some (.int .i64 a1_2) := (blk_cell BK184.out 2).trans rfl
                have hcz69_3 : wc.cell? ⟨gb184, 3, none⟩ = some (.int .u64 a1_3) := (blk_cell BK184.out 3).trans rfl
                have hcz69_4 : wc.cell? ⟨gb184, 4, none⟩ = some (.slice A1_4 l1_4.length c1_4) := (blk_cell BK184.out 4).trans rfl
                have hcz69_5 : wc.cell? ⟨gb184, 5, none⟩ = some (.int .i64 a1_5) := (blk_cell BK184.out 5).trans rfl
                have hfz69_0 := blk_frozen BK184.out 0
                have hfz69_1 := blk_frozen BK184.out 1
                have hfz69_2 := blk_frozen BK184.out 2
                have hfz69_3 := blk_frozen BK184.out 3
                have hfz69_4 := blk_frozen BK184.out 4
                have hfz69_5 := blk_frozen BK184.out 5
                go_wp2_with (first | (go_at_call 80; (with_reducible refine (impl_beginning.calls kj7 _ _ l0_4 _ _ l1_4 false _ ?side1 ?side2 ?side3 ?side4 A54.out).mono ?_); (case side1 => repeat (first | exact (Kd.C_below HR0_4.out HB.out) | (with_reducible refine Kd.C_alloc ?_ _) | (with_reducible refine Kd.C_drewN ?_ _) | (with_reducible refine Kd.C_drew ?_))); (case side2 => exact HC0_4.out); (case side3 => repeat (first | exact (Kd.C_below HR1_4.out HB.out) | (with_reducible refine Kd.C_alloc ?_ _) | (with_reducible refine Kd.C_drewN ?_ _) | (with_reducible refine Kd.C_drew ?_))); (case side4 => exact HC1_4.out); rintro e w' ⟨rfl, ⟨nd, rfl⟩⟩))
                go_ret
                exact ⟨by first | rfl | (simp [errW_none, errW_some] <;> rfl) | (simp [*, errW_none, errW_some] <;> rfl), by repeat (first | (with_reducible first | exact HB.out | apply below_alloc | apply pw_below_drewN | apply below_drew1 | refine below_set ?_ GE183.out | refine below_set ?_ GE184.out) | exact HB.out)⟩
            · rw [if_neg c53] at H
              have c53b0 : ((l0_4.length : Int) == (l1_4.length : Int)) = false := beq_eq_false_iff_ne.mpr c53
              have c53b1 : ((l0_4.length : Int) != (l1_4.length : Int)) = true := bne_iff_ne.mpr c53
              have c53b2 : (l0_4.length == l1_4.length) = false := by first | simpa using c53 | (simp at c53 ⊢; omega)
              obtain rfl := Option.some.inj H
              have hnb70 := NB183_184.out
              have hnc70 := NB184_183.out
              have hcz71_0 : wc.cell? ⟨gb183, 0, none⟩ = some (.int .i64 a0_0) := (blk_cell BK183.out 0).trans rfl
              have hcz71_1 : wc.cell? ⟨gb183, 1, none⟩ = some (.bool a0_1) := (blk_cell BK183.out 1).trans rfl
              have hcz71_2 : wc.cell? ⟨gb183, 2, none⟩ = some (.int .i64 a0_2) := (blk_cell BK183.out 2).trans rfl
              have hcz71_3 : wc.cell? ⟨gb183, 3, none⟩ = some (.int .u64 a0_3) := (blk_cell BK183.out 3).trans rfl
              have hcz71_4 : wc.cell? ⟨gb183, 4, none⟩ = some (.slice A0_4 l0_4.length c0_4) := (blk_cell BK183.out 4).trans rfl
              have hcz71_5 : wc.cell? ⟨gb183, 5, none⟩ = some (.int .i64 a0_5) := (blk_cell BK183.out 5).trans rfl
              have hfz71_0 := blk_frozen BK183.out 0
              have hfz71_1 := blk_frozen BK183.out 1
              have hfz71_2 := blk_frozen BK183.out 2
              have hfz71_3 := blk_frozen BK183.out 3
              have hfz71_4 := blk_frozen BK183.out 4
              have hfz71_5 := blk_frozen BK183.out 5
              have hcz72_0 : wc.cell? ⟨gb184, 0, none⟩ = some (.int .i64 a1_0) := (blk_cell BK184.out 0).trans rfl
              have hcz72_1 : wc.cell? ⟨gb184, 1, none⟩ = some (.bool a1_1) := (blk_cell BK184.out 1).trans rfl
              have hcz72_2 : wc.cell? ⟨gb184, 2, none⟩ = some (.int .i64 a1_2) := (blk_cell BK184.out 2).trans rfl
              have hcz72_3 : wc.cell? ⟨gb184, 3, none⟩ = some (.int .u64 a1_3) := (blk_cell BK184.out 3).trans rfl
              have hcz72_4 : wc.cell? ⟨gb184, 4, none⟩ = some (.slice A1_4 l1_4.length c1_4) := (blk_cell BK184.out 4).trans rfl
              have hcz72_5 : wc.cell? ⟨gb184, 5, none⟩ = some (.int .i64 a1_5) := (blk_cell BK184.out 5).trans rfl
              have hfz72_0 := blk_frozen BK184.out 0
              have hfz72_1 := blk_frozen BK184.out 1
              have hfz72_2 := blk_frozen BK184.out 2
              have hfz72_3 := blk_frozen BK184.out 3
              have hfz72_4 := blk_frozen BK184.out 4
              have hfz72_5 := blk_frozen BK184.out 5
              go_wp2
              go_ret
              exact ⟨by first | rfl | (simp [errW_none, errW_some] <;> rfl) | (simp [*, errW_none, errW_some] <;> rfl), by repeat (first | (with_reducible first | exact HB.out | apply below_alloc | apply pw_below_drewN | apply below_drew1 | refine below_set ?_ GE183.out | refine below_set ?_ GE184.out) | exact HB.out)⟩
          · rw [if_neg c52] at H
            have c52b0 : (a0_0 == a1_0) = false := beq_eq_false_iff_ne.mpr c52
            have c52b1 : (a0_0 != a1_0) = true := bne_iff_ne.mpr c52
            obtain rfl := Option.some.inj H
            have hnb73 := NB183_184.out
            have hnc73 := NB184_183.out
            have hcz74_0 : wc.cell? ⟨gb183, 0, none⟩ = some (.int .i64 a0_0) := (blk_cell BK183.out 0).trans rfl
            have hcz74_1 : wc.cell? ⟨gb183, 1, none⟩ = some (.bool a0_1) := (blk_cell BK183.out 1).trans rfl
            have hcz74_2 : wc.cell? ⟨gb183, 2, none⟩ = some (.int .i64 a0_2) := (blk_cell BK183.out 2).trans rfl
            have hcz74_3 : wc.cell? ⟨gb183, 3, none⟩ = some (.int .u64 a0_3) := (blk_cell BK183.out 3).trans rfl
            have hcz74_4 : wc.cell? ⟨gb183, 4, none⟩ = some (.slice A0_4 l0_4.length c0_4) := (blk_cell BK183.out 4).trans rfl
            have hcz74_5 : wc.cell? ⟨gb183, 5, none⟩ = some (.int .i64 a0_5) := (blk_cell BK183.out 5).trans rfl
            have hfz74_0 := blk_frozen BK183.out 0
            have hfz74_1 := blk_frozen BK183.out 1
            have hfz74_2 := blk_frozen BK183.out 2
            have hfz74_3 := blk_frozen BK183.out 3
            have hfz74_4 := blk_frozen BK183.out 4
            have hfz74_5 := blk_frozen BK183.out 5
            have hcz75_0 : wc.cell? ⟨gb184, 0, none⟩ = some (.int .i64 a1_0) := (blk_cell BK184.out 0).trans rfl
            have hcz75_1 : wc.cell? ⟨gb184, 1, none⟩ = some (.bool a1_1) := (blk_cell BK184.out 1).trans rfl
            have hcz75_2 : wc.cell? ⟨gb184, 2, none⟩ = some (.int .i64 a1_2) := (blk_cell BK184.out 2).trans rfl
            have hcz75_3 : wc.cell? ⟨gb184, 3, none⟩ = some (.int .u64 a1_3) := (blk_cell BK184.out 3).trans rfl
            have hcz75_4 : wc.cell? ⟨gb184, 4, none⟩ = some (.slice A1_4 l1_4.length c1_4) := (blk_cell BK184.out 4).trans rfl
            have hcz75_5 : wc.cell? ⟨gb184, 5, none⟩ = some (.int .i64 a1_5) := (blk_cell BK184.out 5).trans rfl
            have hfz75_0 := blk_frozen BK184.out 0
            have hfz75_1 := blk_frozen BK184.out 1
            have hfz75_2 := blk_frozen BK184.out 2
            have hfz75_3 := blk_frozen BK184.out 3
            have hfz75_4 := blk_frozen BK184.out 4
            have hfz75_5 := blk_frozen BK184.out 5
            go_wp2
            go_ret
            exact ⟨by first | rfl | (simp [errW_none, errW_some] <;> rfl) | (simp [*, errW_none, errW_some] <;> rfl), by repeat (first | (with_reducible first | exact HB.out | apply below_alloc | apply pw_below_drewN | apply below_drew1 | refine below_set ?_ GE183.out | refine below_set ?_ GE184.out) | exact HB.out)⟩

end Go.Proofs.Ythfhenhlfedfmaa.QFnRefines
