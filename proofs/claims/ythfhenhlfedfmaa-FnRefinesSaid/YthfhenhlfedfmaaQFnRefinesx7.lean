-- written by mp.py, a program of this session, over the translation; Lean checks it
import Derived.Test.YthfhenhlfedfmaaQFnRefinesx0
import Derived.Test.YthfhenhlfedfmaaQFnRefinesx3
import Derived.Test.YthfhenhlfedfmaaQFnRefinesx5
import Derived.Test.YthfhenhlfedfmaaQFnRefinesx6
import Derived.Test.YthfhenhlfedfmaaQFnRefinesx7h
namespace Go.Proofs.Ythfhenhlfedfmaa.QFnRefines
open Go.RowKit Go.Proofs.YthfhenhlfedfmaaW.PrintWords Go.Proofs.YthfhenhlfedfmaaW.PrintLast Go.Proofs.YthfhenhlfedfmaaW.PrintMore
attribute [local go_sem] max2_int min2_int max_two min_two max_three min_three max_four min_four   -- for this text's walks alone
set_option linter.unusedVariables false
set_option linter.unusedSimpArgs false

def laws_FnRefines.T5 : Bool × List (List Nat × List Nat) := (true, [([], []), ([], []), ([0, 1], [0, 1]), ([2], [2]), ([3, 2], [3]), ([4], [4]), ([4], [4]), ([5, 6, 4, 4], [4, 5, 6]), ([7, 4], [4, 7]), ([4, 8], [4, 8]), ([9, 7], [9]), ([10], [10]), ([10], [10]), ([11, 12, 10, 10], [10, 11, 12]), ([10], [10]), ([10], [10]), ([14, 15, 13, 10], [10, 14, 15]), ([13, 16, 10], [10, 13, 16]), ([10, 17], [10, 17])])
def laws_FnRefines.B5 : List Nat := [0, 0, 3, 7, 15, 31, 31, 127, 255, 511, 1023, 2047, 2047, 8191, 2047, 2047, 65535, 131071, 262143]
theorem laws_FnRefines.tab5 : rtab .any (opsOf Try.f8 5) = laws_FnRefines.T5 := by kernel_rfl
theorem laws_FnRefines.bits5 : waitsOk laws_FnRefines.T5.2 laws_FnRefines.B5 = true := by kernel_rfl
set_option maxHeartbeats 8000000 in
set_option maxRecDepth 100000 in
theorem laws_FnRefines.calls (k : Nat) (A0 : Option Addr) (c0 : Nat) (l0 : List Int) (A1 : Option Addr) (c1 : Nat) (l1 : List Int) (r : Bool) (w : World) (hr0 : Kd.C (Kd.int .u8) w A0 l0.length l0) (hc0 : l0.length ≤ c0) (hr1 : Kd.C (Kd.int .u8) w A1 l1.length l1) (hc1 : l1.length ≤ c1) (h : laws_FnRefines.f k l0 l1 = some r) (hlaw : Aside0 (r = true)) :
    Calls Try.prog 8 #[.slice A0 l0.length c0, .slice A1 l1.length c1] w fun e w' => e = .returned (.bool r) ∧ Below w.heap.size w w' := by
 have hu53 := Try.underlying53
 have HR0 := Aside0.mk hr0
 have HC0 := Aside0.mk hc0
 clear hr0 hc0
 have HR1 := Aside0.mk hr1
 have HC1 := Aside0.mk hc1
 clear hr1 hc1
 have HB := Aside0.mk (Below.refl w.heap.size w)
 have H : (if (l0.length : Int) > 1048576 then (laws_FnRefines.j0 k l0 l1 true) else (laws_FnRefines.j0 k l0 l1 (decide ((l1.length : Int) > 1048576)))) = some r := h
 clear h
 have HC3 := Aside0.mk H
 clear H
 go_enter Try.func8, Try.ntmps8
 go_upto_region 1 with (fail)
 go_cut [19] (fun v19 wc => ∃ (kq : Nat) (x19_2 : Bool), v19 = .bool x19_2 ∧ Aside0 (laws_FnRefines.j0 kq l0 l1 x19_2 = some r) ∧ Aside0 (kq ≤ k) ∧ Aside0 (Below w.heap.size w wc))
 case first =>
  have H := HC3.out
  clear HC3
  by_cases c4 : (l0.length : Int) > 1048576
  ·rw [if_pos c4] at H
   have c4b0 : decide (1048576 < (l0.length : Int)) = true := decide_eq_true c4
   have c4b1 : decide (1048576 < l0.length) = true := decide_eq_true (by omega)
   clear c4
   (first | rw [c4b0] | (simp only [i64_w, i32_w]; rw [c4b0]) | skip)
   have H' := Aside0.mk H
   clear H
   go_wp2
   go_meet
   case rel => exact ⟨_, (true), (by first | rfl | (simp; done) | (simp [*]; done)), H', ⟨by first | omega | exact Nat.le_refl _⟩, ⟨by repeat (first | (with_reducible first | exact HB.out | apply below_alloc | apply pw_below_drewN | apply below_drew1) | exact HB.out)⟩⟩
  ·rw [if_neg c4] at H
   have c4b0 : decide (1048576 < (l0.length : Int)) = false := decide_eq_false c4
   have c4b1 : decide (1048576 < l0.length) = false := decide_eq_false (by omega)
   clear c4
   (first | rw [c4b0] | (simp only [i64_w, i32_w]; rw [c4b0]) | skip)
   have H' := Aside0.mk H
   clear H
   go_wp2
   go_meet
   case rel => exact ⟨_, (decide ((l1.length : Int) > 1048576)), (by first | rfl | (simp; done) | (simp [*]; done)), H', ⟨by first | omega | exact Nat.le_refl _⟩, ⟨by repeat (first | (with_reducible first | exact HB.out | apply below_alloc | apply pw_below_drewN | apply below_drew1) | exact HB.out)⟩⟩
 case rest =>
  clear HC3
  try clear c1
  try clear p2
  try clear c4
  try clear c4b0
  try clear c4b1
  obtain ⟨kq, x19_2, rfl, HA, HJ2, HB⟩ := hcut
  cases kq with
  | zero => exact absurd HA.out (by simp [laws_FnRefines.j0])
  | succ kj2 =>
   have H := HA.out
   clear HA
   simp only [laws_FnRefines.j0] at H
   by_cases c5 : x19_2 = true
   ·subst c5
    have H1 : (some true) = some r := by rw [if_pos rfl] at H; exact H
    clear H
    have H := H1
    clear H1
    obtain rfl := Option.some.inj H
    go_wp2
    go_ret
    exact ⟨by first | rfl | (simp [errW_none, errW_some] <;> rfl) | (simp [*, errW_none, errW_some] <;> rfl), by repeat (first | (with_reducible first | exact HB.out | apply below_alloc | apply pw_below_drewN | apply below_drew1) | exact HB.out)⟩
   ·replace c5 := Bool.eq_false_iff.mpr c5
    subst c5
    have H1 : ((spec_DrawRefines.f kj2 l0).bind fun bt196 => ((spec_DrawRefines.f kj2 l1).bind fun bt214 => ((impl_Refines.f kj2 bt196.1 bt196.2.1 bt196.2.2.1 bt196.2.2.2.1 bt196.2.2.2.2.1 bt196.2.2.2.2.2.1 bt196.1 bt196.2.1 bt196.2.2.1 bt196.2.2.2.1 bt196.2.2.2.2.1 bt196.2.2.2.2.2.1).bind fun t232 => (if t232 = true then ((impl_Refines.f kj2 bt196.2.2.2.2.2.2.1 bt196.2.2.2.2.2.2.2.1 bt196.2.2.2.2.2.2.2.2.1 bt196.2.2.2.2.2.2.2.2.2.1 bt196.2.2.2.2.2.2.2.2.2.2.1 bt196.2.2.2.2.2.2.2.2.2.2.2 bt196.2.2.2.2.2.2.1 bt196.2.2.2.2.2.2.2.1 bt196.2.2.2.2.2.2.2.2.1 bt196.2.2.2.2.2.2.2.2.2.1 bt196.2.2.2.2.2.2.2.2.2.2.1 bt196.2.2.2.2.2.2.2.2.2.2.2).bind fun t233 => (if t233 = true then ((impl_Refines.f kj2 bt196.1 bt196.2.1 bt196.2.2.1 bt196.2.2.2.1 bt196.2.2.2.2.1 bt196.2.2.2.2.2.1 bt196.2.2.2.2.2.2.1 bt196.2.2.2.2.2.2.2.1 bt196.2.2.2.2.2.2.2.2.1 bt196.2.2.2.2.2.2.2.2.2.1 bt196.2.2.2.2.2.2.2.2.2.2.1 bt196.2.2.2.2.2.2.2.2.2.2.2).bind fun t234 => ((spec_Refines.f kj2 bt196.1 bt196.2.1 bt196.2.2.1 bt196.2.2.2.1 bt196.2.2.2.2.1 bt196.2.2.2.2.2.1 bt196.2.2.2.2.2.2.1 bt196.2.2.2.2.2.2.2.1 bt196.2.2.2.2.2.2.2.2.1 bt196.2.2.2.2.2.2.2.2.2.1 bt196.2.2.2.2.2.2.2.2.2.2.1 bt196.2.2.2.2.2.2.2.2.2.2.2).bind fun t235 => (laws_FnRefines.j1 kj2 (t234 != t235) bt196.1 bt196.2.1 bt196.2.2.1 bt196.2.2.2.1 bt196.2.2.2.2.1 bt196.2.2.2.2.2.1 bt196.2.2.2.2.2.2.1 bt196.2.2.2.2.2.2.2.1 bt196.2.2.2.2.2.2.2.2.1 bt196.2.2.2.2.2.2.2.2.2.1 bt196.2.2.2.2.2.2.2.2.2.2.1 bt196.2.2.2.2.2.2.2.2.2.2.2 bt214.2.2.2.2.2.2.1 bt214.2.2.2.2.2.2.2.1 bt214.2.2.2.2.2.2.2.2.1 bt214.2.2.2.2.2.2.2.2.2.1 bt214.2.2.2.2.2.2.2.2.2.2.1 bt214.2.2.2.2.2.2.2.2.2.2.2))) else (laws_FnRefines.j1 kj2 true bt196.1 bt196.2.1 bt196.2.2.1 bt196.2.2.2.1 bt196.2.2.2.2.1 bt196.2.2.2.2.2.1 bt196.2.2.2.2.2.2.1 bt196.2.2.2.2.2.2.2.1 bt196.2.2.2.2.2.2.2.2.1 bt196.2.2.2.2.2.2.2.2.2.1 bt196.2.2.2.2.2.2.2.2.2.2.1 bt196.2.2.2.2.2.2.2.2.2.2.2 bt214.2.2.2.2.2.2.1 bt214.2.2.2.2.2.2.2.1 bt214.2.2.2.2.2.2.2.2.1 bt214.2.2.2.2.2.2.2.2.2.1 bt214.2.2.2.2.2.2.2.2.2.2.1 bt214.2.2.2.2.2.2.2.2.2.2.2))) else (laws_FnRefines.j1 kj2 true bt196.1 bt196.2.1 bt196.2.2.1 bt196.2.2.2.1 bt196.2.2.2.2.1 bt196.2.2.2.2.2.1 bt196.2.2.2.2.2.2.1 bt196.2.2.2.2.2.2.2.1 bt196.2.2.2.2.2.2.2.2.1 bt196.2.2.2.2.2.2.2.2.2.1 bt196.2.2.2.2.2.2.2.2.2.2.1 bt196.2.2.2.2.2.2.2.2.2.2.2 bt214.2.2.2.2.2.2.1 bt214.2.2.2.2.2.2.2.1 bt214.2.2.2.2.2.2.2.2.1 bt214.2.2.2.2.2.2.2.2.2.1 bt214.2.2.2.2.2.2.2.2.2.2.1 bt214.2.2.2.2.2.2.2.2.2.2.2))))) = some r := by rw [if_neg (show ¬ (false = true) by decide)] at H; exact H
    clear H
    have H := H1
    clear H1
    replace H := Option.bind_eq_some_iff.mp H
    obtain ⟨⟨t196, t197, t198, t199, t200, t203, t204, t205, t206, t207, t208, t211⟩, A60, H⟩ := H
    replace H : ((spec_DrawRefines.f kj2 l1).bind fun bt214 => ((impl_Refines.f kj2 t196 t197 t198 t199 t200 t203 t196 t197 t198 t199 t200 t203).bind fun t232 => (if t232 = true then ((impl_Refines.f kj2 t204 t205 t206 t207 t208 t211 t204 t205 t206 t207 t208 t211).bind fun t233 => (if t233 = true then ((impl_Refines.f kj2 t196 t197 t198 t199 t200 t203 t204 t205 t206 t207 t208 t211).bind fun t234 => ((spec_Refines.f kj2 t196 t197 t198 t199 t200 t203 t204 t205 t206 t207 t208 t211).bind fun t235 => (laws_FnRefines.j1 kj2 (t234 != t235) t196 t197 t198 t199 t200 t203 t204 t205 t206 t207 t208 t211 bt214.2.2.2.2.2.2.1 bt214.2.2.2.2.2.2.2.1 bt214.2.2.2.2.2.2.2.2.1 bt214.2.2.2.2.2.2.2.2.2.1 bt214.2.2.2.2.2.2.2.2.2.2.1 bt214.2.2.2.2.2.2.2.2.2.2.2))) else (laws_FnRefines.j1 kj2 true t196 t197 t198 t199 t200 t203 t204 t205 t206 t207 t208 t211 bt214.2.2.2.2.2.2.1 bt214.2.2.2.2.2.2.2.1 bt214.2.2.2.2.2.2.2.2.1 bt214.2.2.2.2.2.2.2.2.2.1 bt214.2.2.2.2.2.2.2.2.2.2.1 bt214.2.2.2.2.2.2.2.2.2.2.2))) else (laws_FnRefines.j1 kj2 true t196 t197 t198 t199 t200 t203 t204 t205 t206 t207 t208 t211 bt214.2.2.2.2.2.2.1 bt214.2.2.2.2.2.2.2.1 bt214.2.2.2.2.2.2.2.2.1 bt214.2.2.2.2.2.2.2.2.2.1 bt214.2.2.2.2.2.2.2.2.2.2.1 bt214.2.2.2.2.2.2.2.2.2.2.2)))) = some r := H
    have A6 := Aside0.mk A60
    clear A60
    replace H := Option.bind_eq_some_iff.mp H
    obtain ⟨⟨t214, t215, t216, t217, t218, t221, t222, t223, t224, t225, t226, t229⟩, A70, H⟩ := H
    replace H : ((impl_Refines.f kj2 t196 t197 t198 t199 t200 t203 t196 t197 t198 t199 t200 t203).bind fun t232 => (if t232 = true then ((impl_Refines.f kj2 t204 t205 t206 t207 t208 t211 t204 t205 t206 t207 t208 t211).bind fun t233 => (if t233 = true then ((impl_Refines.f kj2 t196 t197 t198 t199 t200 t203 t204 t205 t206 t207 t208 t211).bind fun t234 => ((spec_Refines.f kj2 t196 t197 t198 t199 t200 t203 t204 t205 t206 t207 t208 t211).bind fun t235 => (laws_FnRefines.j1 kj2 (t234 != t235) t196 t197 t198 t199 t200 t203 t204 t205 t206 t207 t208 t211 t222 t223 t224 t225 t226 t229))) else (laws_FnRefines.j1 kj2 true t196 t197 t198 t199 t200 t203 t204 t205 t206 t207 t208 t211 t222 t223 t224 t225 t226 t229))) else (laws_FnRefines.j1 kj2 true t196 t197 t198 t199 t200 t203 t204 t205 t206 t207 t208 t211 t222 t223 t224 t225 t226 t229))) = some r := H
    have A7 := Aside0.mk A70
    clear A70
    have HC8 := Aside0.mk H
    clear H
    go_upto_region 5 with (first | ((with_reducible refine gate_callee (f := 33) rfl ?_); refine goesL_ (some 22) rfl rfl Try.func33 (by kernel_rfl) rfl #[.slice A0 l0.length c0] rfl (by (try simp only [List.map_toArray, List.map_cons, List.map_nil]); first | done | rfl | (simp only [List.length_drop, List.length_take]; rfl)) ?_; (with_reducible refine (spec_DrawRefines.calls kj2 _ _ l0 t196 t197 t198 t199 t200 t203 t204 t205 t206 t207 t208 t211 _ ?side1 ?side2 A6.out).mono ?_); (case side1 => repeat (first | exact (Kd.C_below HR0.out HB.out) | (with_reducible refine Kd.C_alloc ?_ _) | (with_reducible refine Kd.C_drewN ?_ _) | (with_reducible refine Kd.C_drew ?_))); (case side2 => exact HC0.out); rintro e w9 ⟨v201, v209, rfl, ho0, ho1, hb⟩; refine ⟨_, rfl, ?_⟩; have n0_ := Aside0.mk (Kd.R_lower ho0 (below_size (by repeat (first | (with_reducible first | exact HB.out | apply below_alloc | apply pw_below_drewN | apply below_drew1) | exact HB.out)))); have n1_ := Aside0.mk (Kd.R_lower ho1 (below_size (by repeat (first | (with_reducible first | exact HB.out | apply below_alloc | apply pw_below_drewN | apply below_drew1) | exact HB.out)))); have n2_ := Aside0.mk (below_step (by repeat (first | (with_reducible first | exact HB.out | apply below_alloc | apply pw_below_drewN | apply below_drew1) | exact HB.out)) hb); clear HB; have HO202 := n0_; have HO210 := n1_; have HB := n2_; clear n0_ n1_ n2_; (try clear hb); (try clear hb2); (try clear hk); (try clear hi); (try clear ho0); (try clear ho1)) | ((with_reducible refine gate_dst (N := 5) rfl ?_); (try (refine gate_guard (by rfl) ?_; dsimp only)); refine box_event ?hg (N := 5) ?hd (cs := #[.int .i64 0, .bool false, .int .i64 0, .int .u64 0, .slice none 0 0, .int .i64 0]) (t := 53) ?hr ?_; (case hd => rfl); (case hg => rfl); (case hr => first | (go_simp; done) | (go_simp; rfl)); intro gb212 hg w10 hbox hb; have n0_ := Aside0.mk (Kd.R_below (by exact HO202.out) hb); have n1_ := Aside0.mk (Kd.R_below (by exact HO210.out) hb); have n2_ := Aside0.mk (below_step (by repeat (first | (with_reducible first | exact HB.out | apply below_alloc | apply pw_below_drewN | apply below_drew1) | exact HB.out)) hb); have n3_ := Aside0.mk (hbox); have n4_ := Aside0.mk ((by rw [hg]; exact (below_size (by repeat (first | (with_reducible first | exact HB.out | apply below_alloc | apply pw_below_drewN | apply below_drew1) | exact HB.out))) : w.heap.size ≤ gb212)); have n5_ := Aside0.mk ((by rw [hg]; exact (below_size (by repeat (first | (with_reducible first | exact HB.out | apply below_alloc | apply pw_below_drewN | apply below_drew1) | exact HB.out))) : w.heap.size ≤ gb212)); clear HO202; clear HO210; clear HB; have HO202 := n0_; have HO210 := n1_; have HB := n2_; have BK212 := n3_; have GW212 := n4_; have GE212 := n5_; clear n0_ n1_ n2_ n3_ n4_ n5_; clear hb hbox hg) | ((with_reducible refine gate_dst (N := 6) rfl ?_); (try (refine gate_guard (by rfl) ?_; dsimp only)); refine box_event ?hg (N := 6) ?hd (cs := #[.int .i64 0, .bool false, .int .i64 0, .int .u64 0, .slice none 0 0, .int .i64 0]) (t := 53) ?hr ?_; (case hd => rfl); (case hg => rfl); (case hr => first | (go_simp; done) | (go_simp; rfl)); intro gb213 hg w11 hbox hb; have n0_ := Aside0.mk (Kd.R_below (by exact HO202.out) hb); have n1_ := Aside0.mk (Kd.R_below (by exact HO210.out) hb); have n2_ := Aside0.mk (blk_below (g := gb212) (o := .cells #[.int .i64 0, .bool false, .int .i64 0, .int .u64 0, .slice none 0 0, .int .i64 0] 53 (0, 0)) (by exact BK212.out) hb); have n3_ := Aside0.mk (below_step (by repeat (first | (with_reducible first | exact HB.out | apply below_alloc | apply pw_below_drewN | apply below_drew1 | refine below_set ?_ GE212.out) | exact HB.out)) hb); have n4_ := Aside0.mk (hbox); have n5_ := Aside0.mk ((by rw [hg]; exact (below_size (by repeat (first | (with_reducible first | exact HB.out | apply below_alloc | apply pw_below_drewN | apply below_drew1 | refine below_set ?_ GE212.out) | exact HB.out))) : w.heap.size ≤ gb213)); have n6_ := Aside0.mk ((by rw [hg]; exact (below_size (by repeat (first | (with_reducible first | exact HB.out | apply below_alloc | apply pw_below_drewN | apply below_drew1 | refine below_set ?_ GE212.out) | exact HB.out))) : w.heap.size ≤ gb213)); have n7_ := Aside0.mk ((by rw [hg]; exact Nat.ne_of_lt (blk_lt (g := gb212) (o := .cells #[.int .i64 0, .bool false, .int .i64 0, .int .u64 0, .slice none 0 0, .int .i64 0] 53 (0, 0)) (by exact BK212.out)) : gb212 ≠ gb213)); have n8_ := Aside0.mk ((by rw [hg]; exact Nat.ne_of_gt (blk_lt (g := gb212) (o := .cells #[.int .i64 0, .bool false, .int .i64 0, .int .u64 0, .slice none 0 0, .int .i64 0] 53 (0, 0)) (by exact BK212.out)) : gb213 ≠ gb212)); clear HO202; clear HO210; clear BK212; clear HB; have HO202 := n0_; have HO210 := n1_; have BK212 := n2_; have HB := n3_; have BK213 := n4_; have GW213 := n5_; have GE213 := n6_; have NB212_213 := n7_; have NB213_212 := n8_; clear n0_ n1_ n2_ n3_ n4_ n5_ n6_ n7_ n8_; clear hb hbox hg; have hnb12 := NB212_213.out; have hnc12 := NB213_212.out; have hcz13_0 : w11.cell? ⟨gb212, 0, none⟩ = some (.int .i64 0) := (blk_cell BK212.out 0).trans rfl; have hcz13_1 : w11.cell? ⟨gb212, 1, none⟩ = some (.bool false) := (blk_cell BK212.out 1).trans rfl; have hcz13_2 : w11.cell? ⟨gb212, 2, none⟩ = some (.int .i64 0) := (blk_cell BK212.out 2).trans rfl; have hcz13_3 : w11.cell? ⟨gb212, 3, none⟩ = some (.int .u64 0) := (blk_cell BK212.out 3).trans rfl; have hcz13_4 : w11.cell? ⟨gb212, 4, none⟩ = some (.slice none 0 0) := (blk_cell BK212.out 4).trans rfl; have hcz13_5 : w11.cell? ⟨gb212, 5, none⟩ = some (.int .i64 0) := (blk_cell BK212.out 5).trans rfl; have hfz13_0 := blk_frozen BK212.out 0; have hfz13_1 := blk_frozen BK212.out 1; have hfz13_2 := blk_frozen BK212.out 2; have hfz13_3 := blk_frozen BK212.out 3; have hfz13_4 := blk_frozen BK212.out 4; have hfz13_5 := blk_frozen BK212.out 5; obtain ⟨Ao14, co14, eo14⟩ := Kd.R_slice HO202.out; subst eo14; have hcz15_0 : w11.cell? ⟨gb213, 0, none⟩ = some (.int .i64 0) := (blk_cell BK213.out 0).trans rfl; have hcz15_1 : w11.cell? ⟨gb213, 1, none⟩ = some (.bool false) := (blk_cell BK213.out 1).trans rfl; have hcz15_2 : w11.cell? ⟨gb213, 2, none⟩ = some (.int .i64 0) := (blk_cell BK213.out 2).trans rfl; have hcz15_3 : w11.cell? ⟨gb213, 3, none⟩ = some (.int .u64 0) := (blk_cell BK213.out 3).trans rfl; have hcz15_4 : w11.cell? ⟨gb213, 4, none⟩ = some (.slice none 0 0) := (blk_cell BK213.out 4).trans rfl; have hcz15_5 : w11.cell? ⟨gb213, 5, none⟩ = some (.int .i64 0) := (blk_cell BK213.out 5).trans rfl; have hfz15_0 := blk_frozen BK213.out 0; have hfz15_1 := blk_frozen BK213.out 1; have hfz15_2 := blk_frozen BK213.out 2; have hfz15_3 := blk_frozen BK213.out 3; have hfz15_4 := blk_frozen BK213.out 4; have hfz15_5 := blk_frozen BK213.out 5; obtain ⟨Ao16, co16, eo16⟩ := Kd.R_slice HO210.out; subst eo16) | ((with_reducible refine gate_callee (f := 33) rfl ?_); refine goesL_ (some 27) rfl rfl Try.func33 (by kernel_rfl) rfl #[.slice A1 l1.length c1] rfl (by (try simp only [List.map_toArray, List.map_cons, List.map_nil]); first | done | rfl | (simp only [List.length_drop, List.length_take]; rfl)) ?_; (with_reducible refine (spec_DrawRefines.calls kj2 _ _ l1 t214 t215 t216 t217 t218 t221 t222 t223 t224 t225 t226 t229 _ ?side1 ?side2 A7.out).mono ?_); (case side1 => exact Kd.C_below HR1.out (by repeat (first | (with_reducible first | exact HB.out | apply below_alloc | apply pw_below_drewN | apply below_drew1 | refine below_set ?_ GE212.out | refine below_set ?_ GE213.out) | exact HB.out))); (case side2 => exact HC1.out); rintro e w17 ⟨v219, v227, rfl, ho0, ho1, hb⟩; refine ⟨_, rfl, ?_⟩; have n0_ := Aside0.mk (Kd.R_mono (Kd.R_told (Kd.R_told (Kd.R_old (by exact (Kd.R_mono (Kd.R_mono (Kd.R_far (p := ⟨gb213, 5, none⟩) (Kd.R_far (p := ⟨gb213, 4, none⟩) (Kd.R_far (p := ⟨gb213, 3, none⟩) (Kd.R_far (p := ⟨gb213, 2, none⟩) (Kd.R_far (p := ⟨gb213, 1, none⟩) (Kd.R_far (p := ⟨gb213, 0, none⟩) (Kd.R_far (p := ⟨gb212, 5, none⟩) (Kd.R_far (p := ⟨gb212, 4, none⟩) (Kd.R_far (p := ⟨gb212, 3, none⟩) (Kd.R_far (p := ⟨gb212, 2, none⟩) (Kd.R_far (p := ⟨gb212, 1, none⟩) (Kd.R_far (p := ⟨gb212, 0, none⟩) (Kd.R_types (Kd.R_types HO202.out BK212.out (by decide)) BK213.out (by decide)) (fun _ hk => hk.1.2) (.int .i64 t196)) (fun _ hk => hk.1.2) (.bool t197)) (fun _ hk => hk.1.2) (.int .i64 t198)) (fun _ hk => hk.1.2) (.int .u64 t199)) (fun _ hk => hk.1.2) (.slice Ao14 t200.length co14)) (fun _ hk => hk.1.2) (.int .i64 t203)) (fun _ hk => hk.2) (.int .i64 t204)) (fun _ hk => hk.2) (.bool t205)) (fun _ hk => hk.2) (.int .i64 t206)) (fun _ hk => hk.2) (.int .u64 t207)) (fun _ hk => hk.2) (.slice Ao16 t208.length co16)) (fun _ hk => hk.2) (.int .i64 t211)) (fun _ h_ => h_.1)) (fun _ h_ => h_.1))) hb) (Kd.R_base ho0)) (Kd.R_base ho1)) (fun _ h_ => h_.1)); have n1_ := Aside0.mk (Kd.R_mono (Kd.R_told (Kd.R_told (Kd.R_old (by exact (Kd.R_mono (Kd.R_mono (Kd.R_far (p := ⟨gb213, 5, none⟩) (Kd.R_far (p := ⟨gb213, 4, none⟩) (Kd.R_far (p := ⟨gb213, 3, none⟩) (Kd.R_far (p := ⟨gb213, 2, none⟩) (Kd.R_far (p := ⟨gb213, 1, none⟩) (Kd.R_far (p := ⟨gb213, 0, none⟩) (Kd.R_far (p := ⟨gb212, 5, none⟩) (Kd.R_far (p := ⟨gb212, 4, none⟩) (Kd.R_far (p := ⟨gb212, 3, none⟩) (Kd.R_far (p := ⟨gb212, 2, none⟩) (Kd.R_far (p := ⟨gb212, 1, none⟩) (Kd.R_far (p := ⟨gb212, 0, none⟩) (Kd.R_types (Kd.R_types HO210.out BK212.out (by decide)) BK213.out (by decide)) (fun _ hk => hk.1.2) (.int .i64 t196)) (fun _ hk => hk.1.2) (.bool t197)) (fun _ hk => hk.1.2) (.int .i64 t198)) (fun _ hk => hk.1.2) (.int .u64 t199)) (fun _ hk => hk.1.2) (.slice Ao14 t200.length co14)) (fun _ hk => hk.1.2) (.int .i64 t203)) (fun _ hk => hk.2) (.int .i64 t204)) (fun _ hk => hk.2) (.bool t205)) (fun _ hk => hk.2) (.int .i64 t206)) (fun _ hk => hk.2) (.int .u64 t207)) (fun _ hk => hk.2) (.slice Ao16 t208.length co16)) (fun _ hk => hk.2) (.int .i64 t211)) (fun _ h_ => h_.1)) (fun _ h_ => h_.1))) hb) (Kd.R_base ho0)) (Kd.R_base ho1)) (fun _ h_ => h_.1)); have n2_ := Aside0.mk (Kd.R_lower (Kd.R_new' (Kd.R_new' ho0 (Kd.R_lt (by exact (Kd.R_mono (Kd.R_mono (Kd.R_far (p := ⟨gb213, 5, none⟩) (Kd.R_far (p := ⟨gb213, 4, none⟩) (Kd.R_far (p := ⟨gb213, 3, none⟩) (Kd.R_far (p := ⟨gb213, 2, none⟩) (Kd.R_far (p := ⟨gb213, 1, none⟩) (Kd.R_far (p := ⟨gb213, 0, none⟩) (Kd.R_far (p := ⟨gb212, 5, none⟩) (Kd.R_far (p := ⟨gb212, 4, none⟩) (Kd.R_far (p := ⟨gb212, 3, none⟩) (Kd.R_far (p := ⟨gb212, 2, none⟩) (Kd.R_far (p := ⟨gb212, 1, none⟩) (Kd.R_far (p := ⟨gb212, 0, none⟩) (Kd.R_types (Kd.R_types HO202.out BK212.out (by decide)) BK213.out (by decide)) (fun _ hk => hk.1.2) (.int .i64 t196)) (fun _ hk => hk.1.2) (.bool t197)) (fun _ hk => hk.1.2) (.int .i64 t198)) (fun _ hk => hk.1.2) (.int .u64 t199)) (fun _ hk => hk.1.2) (.slice Ao14 t200.length co14)) (fun _ hk => hk.1.2) (.int .i64 t203)) (fun _ hk => hk.2) (.int .i64 t204)) (fun _ hk => hk.2) (.bool t205)) (fun _ hk => hk.2) (.int .i64 t206)) (fun _ hk => hk.2) (.int .u64 t207)) (fun _ hk => hk.2) (.slice Ao16 t208.length co16)) (fun _ hk => hk.2) (.int .i64 t211)) (fun _ h_ => h_.1)) (fun _ h_ => h_.1))))) (Kd.R_lt (by exact (Kd.R_mono (Kd.R_mono (Kd.R_far (p := ⟨gb213, 5, none⟩) (Kd.R_far (p := ⟨gb213, 4, none⟩) (Kd.R_far (p := ⟨gb213, 3, none⟩) (Kd.R_far (p := ⟨gb213, 2, none⟩) (Kd.R_far (p := ⟨gb213, 1, none⟩) (Kd.R_far (p := ⟨gb213, 0, none⟩) (Kd.R_far (p := ⟨gb212, 5, none⟩) (Kd.R_far (p := ⟨gb212, 4, none⟩) (Kd.R_far (p := ⟨gb212, 3, none⟩) (Kd.R_far (p := ⟨gb212, 2, none⟩) (Kd.R_far (p := ⟨gb212, 1, none⟩) (Kd.R_far (p := ⟨gb212, 0, none⟩) (Kd.R_types (Kd.R_types HO210.out BK212.out (by decide)) BK213.out (by decide)) (fun _ hk => hk.1.2) (.int .i64 t196)) (fun _ hk => hk.1.2) (.bool t197)) (fun _ hk => hk.1.2) (.int .i64 t198)) (fun _ hk => hk.1.2) (.int .u64 t199)) (fun _ hk => hk.1.2) (.slice Ao14 t200.length co14)) (fun _ hk => hk.1.2) (.int .i64 t203)) (fun _ hk => hk.2) (.int .i64 t204)) (fun _ hk => hk.2) (.bool t205)) (fun _ hk => hk.2) (.int .i64 t206)) (fun _ hk => hk.2) (.int .u64 t207)) (fun _ hk => hk.2) (.slice Ao16 t208.length co16)) (fun _ hk => hk.2) (.int .i64 t211)) (fun _ h_ => h_.1)) (fun _ h_ => h_.1))))) (below_size (by repeat (first | (with_reducible first | exact HB.out | apply below_alloc | apply pw_below_drewN | apply below_drew1 | refine below_set ?_ GE212.out | refine below_set ?_ GE213.out) | exact HB.out)))); have n3_ := Aside0.mk (Kd.R_lower (Kd.R_new' (Kd.R_new' ho1 (Kd.R_lt (by exact (Kd.R_mono (Kd.R_mono (Kd.R_far (p := ⟨gb213, 5, none⟩) (Kd.R_far (p := ⟨gb213, 4, none⟩) (Kd.R_far (p := ⟨gb213, 3, none⟩) (Kd.R_far (p := ⟨gb213, 2, none⟩) (Kd.R_far (p := ⟨gb213, 1, none⟩) (Kd.R_far (p := ⟨gb213, 0, none⟩) (Kd.R_far (p := ⟨gb212, 5, none⟩) (Kd.R_far (p := ⟨gb212, 4, none⟩) (Kd.R_far (p := ⟨gb212, 3, none⟩) (Kd.R_far (p := ⟨gb212, 2, none⟩) (Kd.R_far (p := ⟨gb212, 1, none⟩) (Kd.R_far (p := ⟨gb212, 0, none⟩) (Kd.R_types (Kd.R_types HO202.out BK212.out (by decide)) BK213.out (by decide)) (fun _ hk => hk.1.2) (.int .i64 t196)) (fun _ hk => hk.1.2) (.bool t197)) (fun _ hk => hk.1.2) (.int .i64 t198)) (fun _ hk => hk.1.2) (.int .u64 t199)) (fun _ hk => hk.1.2) (.slice Ao14 t200.length co14)) (fun _ hk => hk.1.2) (.int .i64 t203)) (fun _ hk => hk.2) (.int .i64 t204)) (fun _ hk => hk.2) (.bool t205)) (fun _ hk => hk.2) (.int .i64 t206)) (fun _ hk => hk.2) (.int .u64 t207)) (fun _ hk => hk.2) (.slice Ao16 t208.length co16)) (fun _ hk => hk.2) (.int .i64 t211)) (fun _ h_ => h_.1)) (fun _ h_ => h_.1))))) (Kd.R_lt (by exact (Kd.R_mono (Kd.R_mono (Kd.R_far (p := ⟨gb213, 5, none⟩) (Kd.R_far (p := ⟨gb213, 4, none⟩) (Kd.R_far (p := ⟨gb213, 3, none⟩) (Kd.R_far (p := ⟨gb213, 2, none⟩) (Kd.R_far (p := ⟨gb213, 1, none⟩) (Kd.R_far (p := ⟨gb213, 0, none⟩) (Kd.R_far (p := ⟨gb212, 5, none⟩) (Kd.R_far (p := ⟨gb212, 4, none⟩) (Kd.R_far (p := ⟨gb212, 3, none⟩) (Kd.R_far (p := ⟨gb212, 2, none⟩) (Kd.R_far (p := ⟨gb212, 1, none⟩) (Kd.R_far (p := ⟨gb212, 0, none⟩) (Kd.R_types (Kd.R_types HO210.out BK212.out (by decide)) BK213.out (by decide)) (fun _ hk => hk.1.2) (.int .i64 t196)) (fun _ hk => hk.1.2) (.bool t197)) (fun _ hk => hk.1.2) (.int .i64 t198)) (fun _ hk => hk.1.2) (.int .u64 t199)) (fun _ hk => hk.1.2) (.slice Ao14 t200.length co14)) (fun _ hk => hk.1.2) (.int .i64 t203)) (fun _ hk => hk.2) (.int .i64 t204)) (fun _ hk => hk.2) (.bool t205)) (fun _ hk => hk.2) (.int .i64 t206)) (fun _ hk => hk.2) (.int .u64 t207)) (fun _ hk => hk.2) (.slice Ao16 t208.length co16)) (fun _ hk => hk.2) (.int .i64 t211)) (fun _ h_ => h_.1)) (fun _ h_ => h_.1))))) (below_size (by repeat (first | (with_reducible first | exact HB.out | apply below_alloc | apply pw_below_drewN | apply below_drew1 | refine below_set ?_ GE212.out | refine below_set ?_ GE213.out) | exact HB.out)))); have n4_ := Aside0.mk (blk_below (g := gb212) (o := .cells #[.int .i64 t196, .bool t197, .int .i64 t198, .int .u64 t199, .slice Ao14 t200.length co14, .int .i64 t203] 53 (0, 0)) (by refine blk_far ?_ NB212_213.out _; refine blk_far ?_ NB212_213.out _; refine blk_far ?_ NB212_213.out _; refine blk_far ?_ NB212_213.out _; refine blk_far ?_ NB212_213.out _; refine blk_far ?_ NB212_213.out _; refine blk_put (cs := #[.int .i64 t196, .bool t197, .int .i64 t198, .int .u64 t199, .slice Ao14 t200.length co14, .int .i64 0]) ?_ 5 _ rfl; refine blk_put (cs := #[.int .i64 t196, .bool t197, .int .i64 t198, .int .u64 t199, .slice none 0 0, .int .i64 0]) ?_ 4 _ rfl; refine blk_put (cs := #[.int .i64 t196, .bool t197, .int .i64 t198, .int .u64 0, .slice none 0 0, .int .i64 0]) ?_ 3 _ rfl; refine blk_put (cs := #[.int .i64 t196, .bool t197, .int .i64 0, .int .u64 0, .slice none 0 0, .int .i64 0]) ?_ 2 _ rfl; refine blk_put (cs := #[.int .i64 t196, .bool false, .int .i64 0, .int .u64 0, .slice none 0 0, .int .i64 0]) ?_ 1 _ rfl; refine blk_put (cs := #[.int .i64 0, .bool false, .int .i64 0, .int .u64 0, .slice none 0 0, .int .i64 0]) ?_ 0 _ rfl; exact BK212.out) hb); have n5_ := Aside0.mk (blk_below (g := gb213) (o := .cells #[.int .i64 t204, .bool t205, .int .i64 t206, .int .u64 t207, .slice Ao16 t208.length co16, .int .i64 t211] 53 (0, 0)) (by refine blk_put (cs := #[.int .i64 t204, .bool t205, .int .i64 t206, .int .u64 t207, .slice Ao16 t208.length co16, .int .i64 0]) ?_ 5 _ rfl; refine blk_put (cs := #[.int .i64 t204, .bool t205, .int .i64 t206, .int .u64 t207, .slice none 0 0, .int .i64 0]) ?_ 4 _ rfl; refine blk_put (cs := #[.int .i64 t204, .bool t205, .int .i64 t206, .int .u64 0, .slice none 0 0, .int .i64 0]) ?_ 3 _ rfl; refine blk_put (cs := #[.int .i64 t204, .bool t205, .int .i64 0, .int .u64 0, .slice none 0 0, .int .i64 0]) ?_ 2 _ rfl; refine blk_put (cs := #[.int .i64 t204, .bool false, .int .i64 0, .int .u64 0, .slice none 0 0, .int .i64 0]) ?_ 1 _ rfl; refine blk_put (cs := #[.int .i64 0, .bool false, .int .i64 0, .int .u64 0, .slice none 0 0, .int .i64 0]) ?_ 0 _ rfl; refine blk_far ?_ NB213_212.out _; refine blk_far ?_ NB213_212.out _; refine blk_far ?_ NB213_212.out _; refine blk_far ?_ NB213_212.out _; refine blk_far ?_ NB213_212.out _; refine blk_far ?_ NB213_212.out _; exact BK213.out) hb); have n6_ := Aside0.mk (below_step (by repeat (first | (with_reducible first | exact HB.out | apply below_alloc | apply pw_below_drewN | apply below_drew1 | refine below_set ?_ GE212.out | refine below_set ?_ GE213.out) | exact HB.out)) hb); clear HO202; clear HO210; clear BK212; clear BK213; clear HB; have HO202 := n0_; have HO210 := n1_; have HO220 := n2_; have HO228 := n3_; have BK212 := n4_; have BK213 := n5_; have HB := n6_; clear n0_ n1_ n2_ n3_ n4_ n5_ n6_; (try clear hb); (try clear hb2); (try clear hk); (try clear hi); (try clear ho0); (try clear ho1)) | ((with_reducible refine gate_dst (N := 7) rfl ?_); (try (refine gate_guard (by rfl) ?_; dsimp only)); refine box_event ?hg (N := 7) ?hd (cs := #[.int .i64 0, .bool false, .int .i64 0, .int .u64 0, .slice none 0 0, .int .i64 0]) (t := 53) ?hr ?_; (case hd => rfl); (case hg => rfl); (case hr => first | (go_simp; done) | (go_simp; rfl)); intro gb230 hg w18 hbox hb; have n0_ := Aside0.mk (Kd.R_below (by exact HO202.out) hb); have n1_ := Aside0.mk (Kd.R_below (by exact HO210.out) hb); have n2_ := Aside0.mk (Kd.R_below (by exact HO220.out) hb); have n3_ := Aside0.mk (Kd.R_below (by exact HO228.out) hb); have n4_ := Aside0.mk (blk_below (g := gb212) (o := .cells #[.int .i64 t196, .bool t197, .int .i64 t198, .int .u64 t199, .slice Ao14 t200.length co14, .int .i64 t203] 53 (0, 0)) (by exact BK212.out) hb); have n5_ := Aside0.mk (blk_below (g := gb213) (o := .cells #[.int .i64 t204, .bool t205, .int .i64 t206, .int .u64 t207, .slice Ao16 t208.length co16, .int .i64 t211] 53 (0, 0)) (by exact BK213.out) hb); have n6_ := Aside0.mk (below_step (by repeat (first | (with_reducible first | exact HB.out | apply below_alloc | apply pw_below_drewN | apply below_drew1 | refine below_set ?_ GE212.out | refine below_set ?_ GE213.out) | exact HB.out)) hb); have n7_ := Aside0.mk (hbox); have n8_ := Aside0.mk ((by rw [hg]; exact (below_size (by repeat (first | (with_reducible first | exact HB.out | apply below_alloc | apply pw_below_drewN | apply below_drew1 | refine below_set ?_ GE212.out | refine below_set ?_ GE213.out) | exact HB.out))) : w.heap.size ≤ gb230)); have n9_ := Aside0.mk ((by rw [hg]; exact (below_size (by repeat (first | (with_reducible first | exact HB.out | apply below_alloc | apply pw_below_drewN | apply below_drew1 | refine below_set ?_ GE212.out | refine below_set ?_ GE213.out) | exact HB.out))) : w.heap.size ≤ gb230)); have n10_ := Aside0.mk ((by rw [hg]; exact Nat.ne_of_lt (blk_lt (g := gb212) (o := .cells #[.int .i64 t196, .bool t197, .int .i64 t198, .int .u64 t199, .slice Ao14 t200.length co14, .int .i64 t203] 53 (0, 0)) (by exact BK212.out)) : gb212 ≠ gb230)); have n11_ := Aside0.mk ((by rw [hg]; exact Nat.ne_of_gt (blk_lt (g := gb212) (o := .cells #[.int .i64 t196, .bool t197, .int .i64 t198, .int .u64 t199, .slice Ao14 t200.length co14, .int .i64 t203] 53 (0, 0)) (by exact BK212.out)) : gb230 ≠ gb212)); have n12_ := Aside0.mk ((by rw [hg]; exact Nat.ne_of_lt (blk_lt (g := gb213) (o := .cells #[.int .i64 t204, .bool t205, .int .i64 t206, .int .u64 t207, .slice Ao16 t208.length co16, .int .i64 t211] 53 (0, 0)) (by exact BK213.out)) : gb213 ≠ gb230)); have n13_ := Aside0.mk ((by rw [hg]; exact Nat.ne_of_gt (blk_lt (g := gb213) (o := .cells #[.int .i64 t204, .bool t205, .int .i64 t206, .int .u64 t207, .slice Ao16 t208.length co16, .int .i64 t211] 53 (0, 0)) (by exact BK213.out)) : gb230 ≠ gb213)); clear HO202; clear HO210; clear HO220; clear HO228; clear BK212; clear BK213; clear HB; have HO202 := n0_; have HO210 := n1_; have HO220 := n2_; have HO228 := n3_; have BK212 := n4_; have BK213 := n5_; have HB := n6_; have BK230 := n7_; have GW230 := n8_; have GE230 := n9_; have NB212_230 := n10_; have NB230_212 := n11_; have NB213_230 := n12_; have NB230_213 := n13_; clear n0_ n1_ n2_ n3_ n4_ n5_ n6_ n7_ n8_ n9_ n10_ n11_ n12_ n13_; clear hb hbox hg) | ((with_reducible refine gate_dst (N := 8) rfl ?_); (try (refine gate_guard (by rfl) ?_; dsimp only)); refine box_event ?hg (N := 8) ?hd (cs := #[.int .i64 0, .bool false, .int .i64 0, .int .u64 0, .slice none 0 0, .int .i64 0]) (t := 53) ?hr ?_; (case hd => rfl); (case hg => rfl); (case hr => first | (go_simp; done) | (go_simp; rfl)); intro gb231 hg w19 hbox hb; have n0_ := Aside0.mk (Kd.R_below (by exact HO202.out) hb); have n1_ := Aside0.mk (Kd.R_below (by exact HO210.out) hb); have n2_ := Aside0.mk (Kd.R_below (by exact HO220.out) hb); have n3_ := Aside0.mk (Kd.R_below (by exact HO228.out) hb); have n4_ := Aside0.mk (blk_below (g := gb212) (o := .cells #[.int .i64 t196, .bool t197, .int .i64 t198, .int .u64 t199, .slice Ao14 t200.length co14, .int .i64 t203] 53 (0, 0)) (by exact BK212.out) hb); have n5_ := Aside0.mk (blk_below (g := gb213) (o := .cells #[.int .i64 t204, .bool t205, .int .i64 t206, .int .u64 t207, .slice Ao16 t208.length co16, .int .i64 t211] 53 (0, 0)) (by exact BK213.out) hb); have n6_ := Aside0.mk (blk_below (g := gb230) (o := .cells #[.int .i64 0, .bool false, .int .i64 0, .int .u64 0, .slice none 0 0, .int .i64 0] 53 (0, 0)) (by exact BK230.out) hb); have n7_ := Aside0.mk (below_step (by repeat (first | (with_reducible first | exact HB.out | apply below_alloc | apply pw_below_drewN | apply below_drew1 | refine below_set ?_ GE212.out | refine below_set ?_ GE213.out | refine below_set ?_ GE230.out) | exact HB.out)) hb); have n8_ := Aside0.mk (hbox); have n9_ := Aside0.mk ((by rw [hg]; exact (below_size (by repeat (first | (with_reducible first | exact HB.out | apply below_alloc | apply pw_below_drewN | apply below_drew1 | refine below_set ?_ GE212.out | refine below_set ?_ GE213.out | refine below_set ?_ GE230.out) | exact HB.out))) : w.heap.size ≤ gb231)); have n10_ := Aside0.mk ((by rw [hg]; exact (below_size (by repeat (first | (with_reducible first | exact HB.out | apply below_alloc | apply pw_below_drewN | apply below_drew1 | refine below_set ?_ GE212.out | refine below_set ?_ GE213.out | refine below_set ?_ GE230.out) | exact HB.out))) : w.heap.size ≤ gb231)); have n11_ := Aside0.mk ((by rw [hg]; exact Nat.ne_of_lt (blk_lt (g := gb212) (o := .cells #[.int .i64 t196, .bool t197, .int .i64 t198, .int .u64 t199, .slice Ao14 t200.length co14, .int .i64 t203] 53 (0, 0)) (by exact BK212.out)) : gb212 ≠ gb231)); have n12_ := Aside0.mk ((by rw [hg]; exact Nat.ne_of_gt (blk_lt (g := gb212) (o := .cells #[.int .i64 t196, .bool t197, .int .i64 t198, .int .u64 t199, .slice Ao14 t200.length co14, .int .i64 t203] 53 (0, 0)) (by exact BK212.out)) : gb231 ≠ gb212)); have n13_ := Aside0.mk ((by rw [hg]; exact Nat.ne_of_lt (blk_lt (g := gb213) (o := .cells #[.int .i64 t204, .bool t205, .int .i64 t206, .int .u64 t207, .slice Ao16 t208.length co16, .int .i64 t211] 53 (0, 0)) (by exact BK213.out)) : gb213 ≠ gb231)); have n14_ := Aside0.mk ((by rw [hg]; exact Nat.ne_of_gt (blk_lt (g := gb213) (o := .cells #[.int .i64 t204, .bool t205, .int .i64 t206, .int .u64 t207, .slice Ao16 t208.length co16, .int .i64 t211] 53 (0, 0)) (by exact BK213.out)) : gb231 ≠ gb213)); have n15_ := Aside0.mk ((by rw [hg]; exact Nat.ne_of_lt (blk_lt (g := gb230) (o := .cells #[.int .i64 0, .bool false, .int .i64 0, .int .u64 0, .slice none 0 0, .int .i64 0] 53 (0, 0)) (by exact BK230.out)) : gb230 ≠ gb231)); have n16_ := Aside0.mk ((by rw [hg]; exact Nat.ne_of_gt (blk_lt (g := gb230) (o := .cells #[.int .i64 0, .bool false, .int .i64 0, .int .u64 0, .slice none 0 0, .int .i64 0] 53 (0, 0)) (by exact BK230.out)) : gb231 ≠ gb230)); clear HO202; clear HO210; clear HO220; clear HO228; clear BK212; clear BK213; clear BK230; clear HB; have HO202 := n0_; have HO210 := n1_; have HO220 := n2_; have HO228 := n3_; have BK212 := n4_; have BK213 := n5_; have BK230 := n6_; have HB := n7_; have BK231 := n8_; have GW231 := n9_; have GE231 := n10_; have NB212_231 := n11_; have NB231_212 := n12_; have NB213_231 := n13_; have NB231_213 := n14_; have NB230_231 := n15_; have NB231_230 := n16_; clear n0_ n1_ n2_ n3_ n4_ n5_ n6_ n7_ n8_ n9_ n10_ n11_ n12_ n13_ n14_ n15_ n16_; clear hb hbox hg; have hnb20 := NB230_212.out; have hnc20 := NB212_230.out; have hnb21 := NB230_213.out; have hnc21 := NB213_230.out; have hnb22 := NB230_231.out; have hnc22 := NB231_230.out; have hcz23_0 : w19.cell? ⟨gb230, 0, none⟩ = some (.int .i64 0) := (blk_cell BK230.out 0).trans rfl; have hcz23_1 : w19.cell? ⟨gb230, 1, none⟩ = some (.bool false) := (blk_cell BK230.out 1).trans rfl; have hcz23_2 : w19.cell? ⟨gb230, 2, none⟩ = some (.int .i64 0) := (blk_cell BK230.out 2).trans rfl; have hcz23_3 : w19.cell? ⟨gb230, 3, none⟩ = some (.int .u64 0) := (blk_cell BK230.out 3).trans rfl; have hcz23_4 : w19.cell? ⟨gb230, 4, none⟩ = some (.slice none 0 0) := (blk_cell BK230.out 4).trans rfl; have hcz23_5 : w19.cell? ⟨gb230, 5, none⟩ = some (.int .i64 0) := (blk_cell BK230.out 5).trans rfl; have hfz23_0 := blk_frozen BK230.out 0; have hfz23_1 := blk_frozen BK230.out 1; have hfz23_2 := blk_frozen BK230.out 2; have hfz23_3 := blk_frozen BK230.out 3; have hfz23_4 := blk_frozen BK230.out 4; have hfz23_5 := blk_frozen BK230.out 5; obtain ⟨Ao24, co24, eo24⟩ := Kd.R_slice HO220.out; subst eo24; have hnb25 := NB231_212.out; have hnc25 := NB212_231.out; have hnb26 := NB231_213.out; have hnc26 := NB213_231.out; have hcz27_0 : w19.cell? ⟨gb231, 0, none⟩ = some (.int .i64 0) := (blk_cell BK231.out 0).trans rfl; have hcz27_1 : w19.cell? ⟨gb231, 1, none⟩ = some (.bool false) := (blk_cell BK231.out 1).trans rfl; have hcz27_2 : w19.cell? ⟨gb231, 2, none⟩ = some (.int .i64 0) := (blk_cell BK231.out 2).trans rfl; have hcz27_3 : w19.cell? ⟨gb231, 3, none⟩ = some (.int .u64 0) := (blk_cell BK231.out 3).trans rfl; have hcz27_4 : w19.cell? ⟨gb231, 4, none⟩ = some (.slice none 0 0) := (blk_cell BK231.out 4).trans rfl; have hcz27_5 : w19.cell? ⟨gb231, 5, none⟩ = some (.int .i64 0) := (blk_cell BK231.out 5).trans rfl; have hfz27_0 := blk_frozen BK231.out 0; have hfz27_1 := blk_frozen BK231.out 1; have hfz27_2 := blk_frozen BK231.out 2; have hfz27_3 := blk_frozen BK231.out 3; have hfz27_4 := blk_frozen BK231.out 4; have hfz27_5 := blk_frozen BK231.out 5; obtain ⟨Ao28, co28, eo28⟩ := Kd.R_slice HO228.out; subst eo28))
    (try simp only [Act.put, List.setIfInBounds_toArray, List.set_cons_zero, List.set_cons_succ])
    go_cut [48] (fun v48 wc => ∃ (kq : Nat) (x48_7 : Bool), v48 = .bool x48_7 ∧ Aside0 (laws_FnRefines.j1 kq x48_7 t196 t197 t198 t199 t200 t203 t204 t205 t206 t207 t208 t211 t222 t223 t224 t225 t226 t229 = some r) ∧ Aside0 (kq ≤ kj2) ∧ Aside0 (Kd.R (Kd.int .u64) 38 wc w.heap.size (fun k_ => some k_ ≠ ((.slice Ao16 t208.length co16) : Value).ownBlock ∧ some k_ ≠ ((.slice Ao24 t218.length co24) : Value).ownBlock ∧ some k_ ≠ ((.slice Ao28 t226.length co28) : Value).ownBlock) (.slice Ao14 t200.length co14) t200) ∧ Aside0 (Kd.R (Kd.int .u64) 38 wc w.heap.size (fun k_ => some k_ ≠ ((.slice Ao14 t200.length co14) : Value).ownBlock ∧ some k_ ≠ ((.slice Ao24 t218.length co24) : Value).ownBlock ∧ some k_ ≠ ((.slice Ao28 t226.length co28) : Value).ownBlock) (.slice Ao16 t208.length co16) t208) ∧ Aside0 (Kd.R (Kd.int .u64) 38 wc w.heap.size (fun k_ => some k_ ≠ ((.slice Ao14 t200.length co14) : Value).ownBlock ∧ some k_ ≠ ((.slice Ao16 t208.length co16) : Value).ownBlock ∧ some k_ ≠ ((.slice Ao28 t226.length co28) : Value).ownBlock) (.slice Ao24 t218.length co24) t218) ∧ Aside0 (Kd.R (Kd.int .u64) 38 wc w.heap.size (fun k_ => some k_ ≠ ((.slice Ao14 t200.length co14) : Value).ownBlock ∧ some k_ ≠ ((.slice Ao16 t208.length co16) : Value).ownBlock ∧ some k_ ≠ ((.slice Ao24 t218.length co24) : Value).ownBlock) (.slice Ao28 t226.length co28) t226) ∧ Aside0 (wc.heap[gb212]? = some (.cells #[.int .i64 t196, .bool t197, .int .i64 t198, .int .u64 t199, (.slice Ao14 t200.length co14), .int .i64 t203] 53 (0, 0))) ∧ Aside0 (wc.heap[gb213]? = some (.cells #[.int .i64 t204, .bool t205, .int .i64 t206, .int .u64 t207, (.slice Ao16 t208.length co16), .int .i64 t211] 53 (0, 0))) ∧ Aside0 (wc.heap[gb230]? = some (.cells #[.int .i64 t214, .bool t215, .int .i64 t216, .int .u64 t217, (.slice Ao24 t218.length co24), .int .i64 t221] 53 (0, 0))) ∧ Aside0 (wc.heap[gb231]? = some (.cells #[.int .i64 t222, .bool t223, .int .i64 t224, .int .u64 t225, (.slice Ao28 t226.length co28), .int .i64 t229] 53 (0, 0))) ∧ Aside0 (Below w.heap.size w wc))
    case first =>
     have H := HC8.out
     clear HC8
     replace H := Option.bind_eq_some_iff.mp H
     obtain ⟨t232, A290, H⟩ := H
     replace H : (if t232 = true then ((impl_Refines.f kj2 t204 t205 t206 t207 t208 t211 t204 t205 t206 t207 t208 t211).bind fun t233 => (if t233 = true then ((impl_Refines.f kj2 t196 t197 t198 t199 t200 t203 t204 t205 t206 t207 t208 t211).bind fun t234 => ((spec_Refines.f kj2 t196 t197 t198 t199 t200 t203 t204 t205 t206 t207 t208 t211).bind fun t235 => (laws_FnRefines.j1 kj2 (t234 != t235) t196 t197 t198 t199 t200 t203 t204 t205 t206 t207 t208 t211 t222 t223 t224 t225 t226 t229))) else (laws_FnRefines.j1 kj2 true t196 t197 t198 t199 t200 t203 t204 t205 t206 t207 t208 t211 t222 t223 t224 t225 t226 t229))) else (laws_FnRefines.j1 kj2 true t196 t197 t198 t199 t200 t203 t204 t205 t206 t207 t208 t211 t222 t223 t224 t225 t226 t229)) = some r := H
     have A29 := Aside0.mk A290
     clear A290
     by_cases c30 : t232 = true
     ·subst c30
      have H1 : ((impl_Refines.f kj2 t204 t205 t206 t207 t208 t211 t204 t205 t206 t207 t208 t211).bind fun t233 => (if t233 = true then ((impl_Refines.f kj2 t196 t197 t198 t199 t200 t203 t204 t205 t206 t207 t208 t211).bind fun t234 => ((spec_Refines.f kj2 t196 t197 t198 t199 t200 t203 t204 t205 t206 t207 t208 t211).bind fun t235 => (laws_FnRefines.j1 kj2 (t234 != t235) t196 t197 t198 t199 t200 t203 t204 t205 t206 t207 t208 t211 t222 t223 t224 t225 t226 t229))) else (laws_FnRefines.j1 kj2 true t196 t197 t198 t199 t200 t203 t204 t205 t206 t207 t208 t211 t222 t223 t224 t225 t226 t229))) = some r := by rw [if_pos rfl] at H; exact H
      clear H
      have H := H1
      clear H1
      replace H := Option.bind_eq_some_iff.mp H
      obtain ⟨t233, A310, H⟩ := H
      replace H : (if t233 = true then ((impl_Refines.f kj2 t196 t197 t198 t199 t200 t203 t204 t205 t206 t207 t208 t211).bind fun t234 => ((spec_Refines.f kj2 t196 t197 t198 t199 t200 t203 t204 t205 t206 t207 t208 t211).bind fun t235 => (laws_FnRefines.j1 kj2 (t234 != t235) t196 t197 t198 t199 t200 t203 t204 t205 t206 t207 t208 t211 t222 t223 t224 t225 t226 t229))) else (laws_FnRefines.j1 kj2 true t196 t197 t198 t199 t200 t203 t204 t205 t206 t207 t208 t211 t222 t223 t224 t225 t226 t229)) = some r := H
      have A31 := Aside0.mk A310
      clear A310
      by_cases c32 : t233 = true
      ·subst c32
       have H1 : ((impl_Refines.f kj2 t196 t197 t198 t199 t200 t203 t204 t205 t206 t207 t208 t211).bind fun t234 => ((spec_Refines.f kj2 t196 t197 t198 t199 t200 t203 t204 t205 t206 t207 t208 t211).bind fun t235 => (laws_FnRefines.j1 kj2 (t234 != t235) t196 t197 t198 t199 t200 t203 t204 t205 t206 t207 t208 t211 t222 t223 t224 t225 t226 t229))) = some r := by rw [if_pos rfl] at H; exact H
       clear H
       have H := H1
       clear H1
       replace H := Option.bind_eq_some_iff.mp H
       obtain ⟨t234, A330, H⟩ := H
       replace H : ((spec_Refines.f kj2 t196 t197 t198 t199 t200 t203 t204 t205 t206 t207 t208 t211).bind fun t235 => (laws_FnRefines.j1 kj2 (t234 != t235) t196 t197 t198 t199 t200 t203 t204 t205 t206 t207 t208 t211 t222 t223 t224 t225 t226 t229)) = some r := H
       have A33 := Aside0.mk A330
       clear A330
       replace H := Option.bind_eq_some_iff.mp H
       obtain ⟨t235, A340, H⟩ := H
       replace H : (laws_FnRefines.j1 kj2 (t234 != t235) t196 t197 t198 t199 t200 t203 t204 t205 t206 t207 t208 t211 t222 t223 t224 t225 t226 t229) = some r := H
       have A34 := Aside0.mk A340
       clear A340
       have H' := Aside0.mk H
       clear H
       try go_wp2
       have n0_ : Aside0 (Kd.R (Kd.int .u64) 38 ((((((((((((w19.setCell ⟨gb230, 0, none⟩ (.int .i64 t214)).setCell ⟨gb230, 1, none⟩ (.bool t215)).setCell ⟨gb230, 2, none⟩ (.int .i64 t216)).setCell ⟨gb230, 3, none⟩ (.int .u64 t217)).setCell ⟨gb230, 4, none⟩ (.slice Ao24 t218.length co24)).setCell ⟨gb230, 5, none⟩ (.int .i64 t221)).setCell ⟨gb231, 0, none⟩ (.int .i64 t222)).setCell ⟨gb231, 1, none⟩ (.bool t223)).setCell ⟨gb231, 2, none⟩ (.int .i64 t224)).setCell ⟨gb231, 3, none⟩ (.int .u64 t225)).setCell ⟨gb231, 4, none⟩ (.slice Ao28 t226.length co28)).setCell ⟨gb231, 5, none⟩ (.int .i64 t229)) w.heap.size (fun k_ => some k_ ≠ (.slice Ao16 t208.length co16 : Value).ownBlock ∧ some k_ ≠ (.slice Ao24 t218.length co24 : Value).ownBlock ∧ some k_ ≠ (.slice Ao28 t226.length co28 : Value).ownBlock) (.slice Ao14 t200.length co14) t200) := ⟨by exact Kd.R_mono (Kd.R_far (p := ⟨gb231, 5, none⟩) (Kd.R_far (p := ⟨gb231, 4, none⟩) (Kd.R_far (p := ⟨gb231, 3, none⟩) (Kd.R_far (p := ⟨gb231, 2, none⟩) (Kd.R_far (p := ⟨gb231, 1, none⟩) (Kd.R_far (p := ⟨gb231, 0, none⟩) (Kd.R_far (p := ⟨gb230, 5, none⟩) (Kd.R_far (p := ⟨gb230, 4, none⟩) (Kd.R_far (p := ⟨gb230, 3, none⟩) (Kd.R_far (p := ⟨gb230, 2, none⟩) (Kd.R_far (p := ⟨gb230, 1, none⟩) (Kd.R_far (p := ⟨gb230, 0, none⟩) (Kd.R_types (Kd.R_types HO202.out BK230.out (by decide)) BK231.out (by decide)) (fun _ hk => hk.1.2) (.int .i64 t214)) (fun _ hk => hk.1.2) (.bool t215)) (fun _ hk => hk.1.2) (.int .i64 t216)) (fun _ hk => hk.1.2) (.int .u64 t217)) (fun _ hk => hk.1.2) (.slice Ao24 t218.length co24)) (fun _ hk => hk.1.2) (.int .i64 t221)) (fun _ hk => hk.2) (.int .i64 t222)) (fun _ hk => hk.2) (.bool t223)) (fun _ hk => hk.2) (.int .i64 t224)) (fun _ hk => hk.2) (.int .u64 t225)) (fun _ hk => hk.2) (.slice Ao28 t226.length co28)) (fun _ hk => hk.2) (.int .i64 t229)) (fun _ hk => ⟨hk.1.1.1.1, ⟨hk.1.1.1.2, hk.1.1.2⟩⟩)⟩
       have n1_ : Aside0 (Kd.R (Kd.int .u64) 38 ((((((((((((w19.setCell ⟨gb230, 0, none⟩ (.int .i64 t214)).setCell ⟨gb230, 1, none⟩ (.bool t215)).setCell ⟨gb230, 2, none⟩ (.int .i64 t216)).setCell ⟨gb230, 3, none⟩ (.int .u64 t217)).setCell ⟨gb230, 4, none⟩ (.slice Ao24 t218.length co24)).setCell ⟨gb230, 5, none⟩ (.int .i64 t221)).setCell ⟨gb231, 0, none⟩ (.int .i64 t222)).setCell ⟨gb231, 1, none⟩ (.bool t223)).setCell ⟨gb231, 2, none⟩ (.int .i64 t224)).setCell ⟨gb231, 3, none⟩ (.int .u64 t225)).setCell ⟨gb231, 4, none⟩ (.slice Ao28 t226.length co28)).setCell ⟨gb231, 5, none⟩ (.int .i64 t229)) w.heap.size (fun k_ => some k_ ≠ (.slice Ao14 t200.length co14 : Value).ownBlock ∧ some k_ ≠ (.slice Ao24 t218.length co24 : Value).ownBlock ∧ some k_ ≠ (.slice Ao28 t226.length co28 : Value).ownBlock) (.slice Ao16 t208.length co16) t208) := ⟨by exact Kd.R_mono (Kd.R_far (p := ⟨gb231, 5, none⟩) (Kd.R_far (p := ⟨gb231, 4, none⟩) (Kd.R_far (p := ⟨gb231, 3, none⟩) (Kd.R_far (p := ⟨gb231, 2, none⟩) (Kd.R_far (p := ⟨gb231, 1, none⟩) (Kd.R_far (p := ⟨gb231, 0, none⟩) (Kd.R_far (p := ⟨gb230, 5, none⟩) (Kd.R_far (p := ⟨gb230, 4, none⟩) (Kd.R_far (p := ⟨gb230, 3, none⟩) (Kd.R_far (p := ⟨gb230, 2, none⟩) (Kd.R_far (p := ⟨gb230, 1, none⟩) (Kd.R_far (p := ⟨gb230, 0, none⟩) (Kd.R_types (Kd.R_types HO210.out BK230.out (by decide)) BK231.out (by decide)) (fun _ hk => hk.1.2) (.int .i64 t214)) (fun _ hk => hk.1.2) (.bool t215)) (fun _ hk => hk.1.2) (.int .i64 t216)) (fun _ hk => hk.1.2) (.int .u64 t217)) (fun _ hk => hk.1.2) (.slice Ao24 t218.length co24)) (fun _ hk => hk.1.2) (.int .i64 t221)) (fun _ hk => hk.2) (.int .i64 t222)) (fun _ hk => hk.2) (.bool t223)) (fun _ hk => hk.2) (.int .i64 t224)) (fun _ hk => hk.2) (.int .u64 t225)) (fun _ hk => hk.2) (.slice Ao28 t226.length co28)) (fun _ hk => hk.2) (.int .i64 t229)) (fun _ hk => ⟨hk.1.1.1.1, ⟨hk.1.1.1.2, hk.1.1.2⟩⟩)⟩
       have n2_ : Aside0 (Kd.R (Kd.int .u64) 38 ((((((((((((w19.setCell ⟨gb230, 0, none⟩ (.int .i64 t214)).setCell ⟨gb230, 1, none⟩ (.bool t215)).setCell ⟨gb230, 2, none⟩ (.int .i64 t216)).setCell ⟨gb230, 3, none⟩ (.int .u64 t217)).setCell ⟨gb230, 4, none⟩ (.slice Ao24 t218.length co24)).setCell ⟨gb230, 5, none⟩ (.int .i64 t221)).setCell ⟨gb231, 0, none⟩ (.int .i64 t222)).setCell ⟨gb231, 1, none⟩ (.bool t223)).setCell ⟨gb231, 2, none⟩ (.int .i64 t224)).setCell ⟨gb231, 3, none⟩ (.int .u64 t225)).setCell ⟨gb231, 4, none⟩ (.slice Ao28 t226.length co28)).setCell ⟨gb231, 5, none⟩ (.int .i64 t229)) w.heap.size (fun k_ => some k_ ≠ (.slice Ao14 t200.length co14 : Value).ownBlock ∧ some k_ ≠ (.slice Ao16 t208.length co16 : Value).ownBlock ∧ some k_ ≠ (.slice Ao28 t226.length co28 : Value).ownBlock) (.slice Ao24 t218.length co24) t218) := ⟨by exact Kd.R_mono (Kd.R_far (p := ⟨gb231, 5, none⟩) (Kd.R_far (p := ⟨gb231, 4, none⟩) (Kd.R_far (p := ⟨gb231, 3, none⟩) (Kd.R_far (p := ⟨gb231, 2, none⟩) (Kd.R_far (p := ⟨gb231, 1, none⟩) (Kd.R_far (p := ⟨gb231, 0, none⟩) (Kd.R_far (p := ⟨gb230, 5, none⟩) (Kd.R_far (p := ⟨gb230, 4, none⟩) (Kd.R_far (p := ⟨gb230, 3, none⟩) (Kd.R_far (p := ⟨gb230, 2, none⟩) (Kd.R_far (p := ⟨gb230, 1, none⟩) (Kd.R_far (p := ⟨gb230, 0, none⟩) (Kd.R_types (Kd.R_types HO220.out BK230.out (by decide)) BK231.out (by decide)) (fun _ hk => hk.1.2) (.int .i64 t214)) (fun _ hk => hk.1.2) (.bool t215)) (fun _ hk => hk.1.2) (.int .i64 t216)) (fun _ hk => hk.1.2) (.int .u64 t217)) (fun _ hk => hk.1.2) (.slice Ao24 t218.length co24)) (fun _ hk => hk.1.2) (.int .i64 t221)) (fun _ hk => hk.2) (.int .i64 t222)) (fun _ hk => hk.2) (.bool t223)) (fun _ hk => hk.2) (.int .i64 t224)) (fun _ hk => hk.2) (.int .u64 t225)) (fun _ hk => hk.2) (.slice Ao28 t226.length co28)) (fun _ hk => hk.2) (.int .i64 t229)) (fun _ hk => ⟨hk.1.1.1.2, ⟨hk.1.1.2, hk.1.1.1.1⟩⟩)⟩
       have n3_ : Aside0 (Kd.R (Kd.int .u64) 38 ((((((((((((w19.setCell ⟨gb230, 0, none⟩ (.int .i64 t214)).setCell ⟨gb230, 1, none⟩ (.bool t215)).setCell ⟨gb230, 2, none⟩ (.int .i64 t216)).setCell ⟨gb230, 3, none⟩ (.int .u64 t217)).setCell ⟨gb230, 4, none⟩ (.slice Ao24 t218.length co24)).setCell ⟨gb230, 5, none⟩ (.int .i64 t221)).setCell ⟨gb231, 0, none⟩ (.int .i64 t222)).setCell ⟨gb231, 1, none⟩ (.bool t223)).setCell ⟨gb231, 2, none⟩ (.int .i64 t224)).setCell ⟨gb231, 3, none⟩ (.int .u64 t225)).setCell ⟨gb231, 4, none⟩ (.slice Ao28 t226.length co28)).setCell ⟨gb231, 5, none⟩ (.int .i64 t229)) w.heap.size (fun k_ => some k_ ≠ (.slice Ao14 t200.length co14 : Value).ownBlock ∧ some k_ ≠ (.slice Ao16 t208.length co16 : Value).ownBlock ∧ some k_ ≠ (.slice Ao24 t218.length co24 : Value).ownBlock) (.slice Ao28 t226.length co28) t226) := ⟨by exact Kd.R_mono (Kd.R_far (p := ⟨gb231, 5, none⟩) (Kd.R_far (p := ⟨gb231, 4, none⟩) (Kd.R_far (p := ⟨gb231, 3, none⟩) (Kd.R_far (p := ⟨gb231, 2, none⟩) (Kd.R_far (p := ⟨gb231, 1, none⟩) (Kd.R_far (p := ⟨gb231, 0, none⟩) (Kd.R_far (p := ⟨gb230, 5, none⟩) (Kd.R_far (p := ⟨gb230, 4, none⟩) (Kd.R_far (p := ⟨gb230, 3, none⟩) (Kd.R_far (p := ⟨gb230, 2, none⟩) (Kd.R_far (p := ⟨gb230, 1, none⟩) (Kd.R_far (p := ⟨gb230, 0, none⟩) (Kd.R_types (Kd.R_types HO228.out BK230.out (by decide)) BK231.out (by decide)) (fun _ hk => hk.1.2) (.int .i64 t214)) (fun _ hk => hk.1.2) (.bool t215)) (fun _ hk => hk.1.2) (.int .i64 t216)) (fun _ hk => hk.1.2) (.int .u64 t217)) (fun _ hk => hk.1.2) (.slice Ao24 t218.length co24)) (fun _ hk => hk.1.2) (.int .i64 t221)) (fun _ hk => hk.2) (.int .i64 t222)) (fun _ hk => hk.2) (.bool t223)) (fun _ hk => hk.2) (.int .i64 t224)) (fun _ hk => hk.2) (.int .u64 t225)) (fun _ hk => hk.2) (.slice Ao28 t226.length co28)) (fun _ hk => hk.2) (.int .i64 t229)) (fun _ hk => ⟨hk.1.1.1.2, ⟨hk.1.1.2, hk.1.1.1.1⟩⟩)⟩
       have n4_ : Aside0 (((((((((((((w19.setCell ⟨gb230, 0, none⟩ (.int .i64 t214)).setCell ⟨gb230, 1, none⟩ (.bool t215)).setCell ⟨gb230, 2, none⟩ (.int .i64 t216)).setCell ⟨gb230, 3, none⟩ (.int .u64 t217)).setCell ⟨gb230, 4, none⟩ (.slice Ao24 t218.length co24)).setCell ⟨gb230, 5, none⟩ (.int .i64 t221)).setCell ⟨gb231, 0, none⟩ (.int .i64 t222)).setCell ⟨gb231, 1, none⟩ (.bool t223)).setCell ⟨gb231, 2, none⟩ (.int .i64 t224)).setCell ⟨gb231, 3, none⟩ (.int .u64 t225)).setCell ⟨gb231, 4, none⟩ (.slice Ao28 t226.length co28)).setCell ⟨gb231, 5, none⟩ (.int .i64 t229)).heap[gb212]? = some (.cells #[.int .i64 t196, .bool t197, .int .i64 t198, .int .u64 t199, .slice Ao14 t200.length co14, .int .i64 t203] 53 (0, 0))) := ⟨by refine blk_far ?_ NB212_231.out _; refine blk_far ?_ NB212_231.out _; refine blk_far ?_ NB212_231.out _; refine blk_far ?_ NB212_231.out _; refine blk_far ?_ NB212_231.out _; refine blk_far ?_ NB212_231.out _; refine blk_far ?_ NB212_230.out _; refine blk_far ?_ NB212_230.out _; refine blk_far ?_ NB212_230.out _; refine blk_far ?_ NB212_230.out _; refine blk_far ?_ NB212_230.out _; refine blk_far ?_ NB212_230.out _; exact BK212.out⟩
       have n5_ : Aside0 (((((((((((((w19.setCell ⟨gb230, 0, none⟩ (.int .i64 t214)).setCell ⟨gb230, 1, none⟩ (.bool t215)).setCell ⟨gb230, 2, none⟩ (.int .i64 t216)).setCell ⟨gb230, 3, none⟩ (.int .u64 t217)).setCell ⟨gb230, 4, none⟩ (.slice Ao24 t218.length co24)).setCell ⟨gb230, 5, none⟩ (.int .i64 t221)).setCell ⟨gb231, 0, none⟩ (.int .i64 t222)).setCell ⟨gb231, 1, none⟩ (.bool t223)).setCell ⟨gb231, 2, none⟩ (.int .i64 t224)).setCell ⟨gb231, 3, none⟩ (.int .u64 t225)).setCell ⟨gb231, 4, none⟩ (.slice Ao28 t226.length co28)).setCell ⟨gb231, 5, none⟩ (.int .i64 t229)).heap[gb213]? = some (.cells #[.int .i64 t204, .bool t205, .int .i64 t206, .int .u64 t207, .slice Ao16 t208.length co16, .int .i64 t211] 53 (0, 0))) := ⟨by refine blk_far ?_ NB213_231.out _; refine blk_far ?_ NB213_231.out _; refine blk_far ?_ NB213_231.out _; refine blk_far ?_ NB213_231.out _; refine blk_far ?_ NB213_231.out _; refine blk_far ?_ NB213_231.out _; refine blk_far ?_ NB213_230.out _; refine blk_far ?_ NB213_230.out _; refine blk_far ?_ NB213_230.out _; refine blk_far ?_ NB213_230.out _; refine blk_far ?_ NB213_230.out _; refine blk_far ?_ NB213_230.out _; exact BK213.out⟩
       have n6_ : Aside0 (((((((((((((w19.setCell ⟨gb230, 0, none⟩ (.int .i64 t214)).setCell ⟨gb230, 1, none⟩ (.bool t215)).setCell ⟨gb230, 2, none⟩ (.int .i64 t216)).setCell ⟨gb230, 3, none⟩ (.int .u64 t217)).setCell ⟨gb230, 4, none⟩ (.slice Ao24 t218.length co24)).setCell ⟨gb230, 5, none⟩ (.int .i64 t221)).setCell ⟨gb231, 0, none⟩ (.int .i64 t222)).setCell ⟨gb231, 1, none⟩ (.bool t223)).setCell ⟨gb231, 2, none⟩ (.int .i64 t224)).setCell ⟨gb231, 3, none⟩ (.int .u64 t225)).setCell ⟨gb231, 4, none⟩ (.slice Ao28 t226.length co28)).setCell ⟨gb231, 5, none⟩ (.int .i64 t229)).heap[gb230]? = some (.cells #[.int .i64 t214, .bool t215, .int .i64 t216, .int .u64 t217, .slice Ao24 t218.length co24, .int .i64 t221] 53 (0, 0))) := ⟨by refine blk_far ?_ NB230_231.out _; refine blk_far ?_ NB230_231.out _; refine blk_far ?_ NB230_231.out _; refine blk_far ?_ NB230_231.out _; refine blk_far ?_ NB230_231.out _; refine blk_far ?_ NB230_231.out _; refine blk_put (cs := #[.int .i64 t214, .bool t215, .int .i64 t216, .int .u64 t217, .slice Ao24 t218.length co24, .int .i64 0]) ?_ 5 _ rfl; refine blk_put (cs := #[.int .i64 t214, .bool t215, .int .i64 t216, .int .u64 t217, .slice none 0 0, .int .i64 0]) ?_ 4 _ rfl; refine blk_put (cs := #[.int .i64 t214, .bool t215, .int .i64 t216, .int .u64 0, .slice none 0 0, .int .i64 0]) ?_ 3 _ rfl; refine blk_put (cs := #[.int .i64 t214, .bool t215, .int .i64 0, .int .u64 0, .slice none 0 0, .int .i64 0]) ?_ 2 _ rfl; refine blk_put (cs := #[.int .i64 t214, .bool false, .int .i64 0, .int .u64 0, .slice none 0 0, .int .i64 0]) ?_ 1 _ rfl; refine blk_put (cs := #[.int .i64 0, .bool false, .int .i64 0, .int .u64 0, .slice none 0 0, .int .i64 0]) ?_ 0 _ rfl; exact BK230.out⟩
       have n7_ : Aside0 (((((((((((((w19.setCell ⟨gb230, 0, none⟩ (.int .i64 t214)).setCell ⟨gb230, 1, none⟩ (.bool t215)).setCell ⟨gb230, 2, none⟩ (.int .i64 t216)).setCell ⟨gb230, 3, none⟩ (.int .u64 t217)).setCell ⟨gb230, 4, none⟩ (.slice Ao24 t218.length co24)).setCell ⟨gb230, 5, none⟩ (.int .i64 t221)).setCell ⟨gb231, 0, none⟩ (.int .i64 t222)).setCell ⟨gb231, 1, none⟩ (.bool t223)).setCell ⟨gb231, 2, none⟩ (.int .i64 t224)).setCell ⟨gb231, 3, none⟩ (.int .u64 t225)).setCell ⟨gb231, 4, none⟩ (.slice Ao28 t226.length co28)).setCell ⟨gb231, 5, none⟩ (.int .i64 t229)).heap[gb231]? = some (.cells #[.int .i64 t222, .bool t223, .int .i64 t224, .int .u64 t225, .slice Ao28 t226.length co28, .int .i64 t229] 53 (0, 0))) := ⟨by refine blk_put (cs := #[.int .i64 t222, .bool t223, .int .i64 t224, .int .u64 t225, .slice Ao28 t226.length co28, .int .i64 0]) ?_ 5 _ rfl; refine blk_put (cs := #[.int .i64 t222, .bool t223, .int .i64 t224, .int .u64 t225, .slice none 0 0, .int .i64 0]) ?_ 4 _ rfl; refine blk_put (cs := #[.int .i64 t222, .bool t223, .int .i64 t224, .int .u64 0, .slice none 0 0, .int .i64 0]) ?_ 3 _ rfl; refine blk_put (cs := #[.int .i64 t222, .bool t223, .int .i64 0, .int .u64 0, .slice none 0 0, .int .i64 0]) ?_ 2 _ rfl; refine blk_put (cs := #[.int .i64 t222, .bool false, .int .i64 0, .int .u64 0, .slice none 0 0, .int .i64 0]) ?_ 1 _ rfl; refine blk_put (cs := #[.int .i64 0, .bool false, .int .i64 0, .int .u64 0, .slice none 0 0, .int .i64 0]) ?_ 0 _ rfl; refine blk_far ?_ NB231_230.out _; refine blk_far ?_ NB231_230.out _; refine blk_far ?_ NB231_230.out _; refine blk_far ?_ NB231_230.out _; refine blk_far ?_ NB231_230.out _; refine blk_far ?_ NB231_230.out _; exact BK231.out⟩
       have n8_ : Aside0 (Below w.heap.size w ((((((((((((w19.setCell ⟨gb230, 0, none⟩ (.int .i64 t214)).setCell ⟨gb230, 1, none⟩ (.bool t215)).setCell ⟨gb230, 2, none⟩ (.int .i64 t216)).setCell ⟨gb230, 3, none⟩ (.int .u64 t217)).setCell ⟨gb230, 4, none⟩ (.slice Ao24 t218.length co24)).setCell ⟨gb230, 5, none⟩ (.int .i64 t221)).setCell ⟨gb231, 0, none⟩ (.int .i64 t222)).setCell ⟨gb231, 1, none⟩ (.bool t223)).setCell ⟨gb231, 2, none⟩ (.int .i64 t224)).setCell ⟨gb231, 3, none⟩ (.int .u64 t225)).setCell ⟨gb231, 4, none⟩ (.slice Ao28 t226.length co28)).setCell ⟨gb231, 5, none⟩ (.int .i64 t229))) := ⟨by repeat (first | (with_reducible first | exact HB.out | apply below_alloc | apply pw_below_drewN | apply below_drew1 | refine below_set ?_ GE212.out | refine below_set ?_ GE213.out | refine below_set ?_ GE230.out | refine below_set ?_ GE231.out) | exact HB.out)⟩
       (try clear HO202)
       (try clear HO210)
       (try clear HO220)
       (try clear HO228)
       (try clear BK212)
       (try clear BK213)
       (try clear BK230)
       (try clear BK231)
       (try clear HB)
       generalize ((((((((((((w19.setCell ⟨gb230, 0, none⟩ (.int .i64 t214)).setCell ⟨gb230, 1, none⟩ (.bool t215)).setCell ⟨gb230, 2, none⟩ (.int .i64 t216)).setCell ⟨gb230, 3, none⟩ (.int .u64 t217)).setCell ⟨gb230, 4, none⟩ (.slice Ao24 t218.length co24)).setCell ⟨gb230, 5, none⟩ (.int .i64 t221)).setCell ⟨gb231, 0, none⟩ (.int .i64 t222)).setCell ⟨gb231, 1, none⟩ (.bool t223)).setCell ⟨gb231, 2, none⟩ (.int .i64 t224)).setCell ⟨gb231, 3, none⟩ (.int .u64 t225)).setCell ⟨gb231, 4, none⟩ (.slice Ao28 t226.length co28)).setCell ⟨gb231, 5, none⟩ (.int .i64 t229)) = w35 at n0_ n1_ n2_ n3_ n4_ n5_ n6_ n7_ n8_ ⊢
       have HO202 := n0_
       have HO210 := n1_
       have HO220 := n2_
       have HO228 := n3_
       have BK212 := n4_
       have BK213 := n5_
       have BK230 := n6_
       have BK231 := n7_
       have HB := n8_
       clear n0_ n1_ n2_ n3_ n4_ n5_ n6_ n7_ n8_
       have n0_ := Aside0.mk (Kd.R_drew HO202.out)
       have n1_ := Aside0.mk (Kd.R_drew HO210.out)
       have n2_ := Aside0.mk (Kd.R_drew HO220.out)
       have n3_ := Aside0.mk (Kd.R_drew HO228.out)
       have n4_ := Aside0.mk (blk_drew BK212.out)
       have n5_ := Aside0.mk (blk_drew BK213.out)
       have n6_ := Aside0.mk (blk_drew BK230.out)
       have n7_ := Aside0.mk (blk_drew BK231.out)
       have n8_ := Aside0.mk (below_drew1 HB.out)
       clear HO202
       clear HO210
       clear HO220
       clear HO228
       clear BK212
       clear BK213
       clear BK230
       clear BK231
       clear HB
       have HO202 := n0_
       have HO210 := n1_
       have HO220 := n2_
       have HO228 := n3_
       have BK212 := n4_
       have BK213 := n5_
       have BK230 := n6_
       have BK231 := n7_
       have HB := n8_
       clear n0_ n1_ n2_ n3_ n4_ n5_ n6_ n7_ n8_
       refine start_ (n := 19) (S := fun w' => w'.cell? ⟨gb212, 0, none⟩ = some (.int .i64 t196) ∧ w'.cell? ⟨gb212, 1, none⟩ = some (.bool t197) ∧ w'.cell? ⟨gb212, 2, none⟩ = some (.int .i64 t198) ∧ w'.cell? ⟨gb212, 3, none⟩ = some (.int .u64 t199) ∧ w'.cell? ⟨gb212, 4, none⟩ = some (.slice Ao14 t200.length co14) ∧ w'.cell? ⟨gb212, 5, none⟩ = some (.int .i64 t203) ∧ w'.cell? ⟨gb213, 0, none⟩ = some (.int .i64 t204) ∧ w'.cell? ⟨gb213, 1, none⟩ = some (.bool t205) ∧ w'.cell? ⟨gb213, 2, none⟩ = some (.int .i64 t206) ∧ w'.cell? ⟨gb213, 3, none⟩ = some (.int .u64 t207) ∧ w'.cell? ⟨gb213, 4, none⟩ = some (.slice Ao16 t208.length co16) ∧ w'.cell? ⟨gb213, 5, none⟩ = some (.int .i64 t211)) (ds := []) #[false, false, false, false, false, false, false, false, false, false, false, false, false, false, false, false, false, false, false] (by kernel_rfl) rfl rfl ⟨(blk_cell BK212.out 0).trans rfl, (blk_cell BK212.out 1).trans rfl, (blk_cell BK212.out 2).trans rfl, (blk_cell BK212.out 3).trans rfl, (blk_cell BK212.out 4).trans rfl, (blk_cell BK212.out 5).trans rfl, (blk_cell BK213.out 0).trans rfl, (blk_cell BK213.out 1).trans rfl, (blk_cell BK213.out 2).trans rfl, (blk_cell BK213.out 3).trans rfl, (blk_cell BK213.out 4).trans rfl, (blk_cell BK213.out 5).trans rfl⟩ (fun hHeld => ?_); refine with_tabW laws_FnRefines.tab5 laws_FnRefines.bits5 (fun HT_ HW_ => ?_)
       generalize w35.drew = w36 at HO202 HO210 HO220 HO228 BK212 BK213 BK230 BK231 HB hHeld ⊢
       refine take_ (i := 0) (N := some 30) (v := ?_) (a' := ?_) #[true, false, false, false, false, false, false, false, false, false, false, false, false, false, false, false, false, false, false] rfl rfl (take_ofW HT_.out HW_.out (by kernel_rfl)) (fun _ _ _ h => h) (Or.inl ⟨by rfl, ?_⟩) hHeld ?_ ?_
       rotate_left
       ·rintro w' ⟨s0, s1, s2, s3, s4, s5, s6, s7, s8, s9, s10, s11⟩
        go_simp
        with_reducible rfl
       rotate_left
       ·simp only [Act.put, List.setIfInBounds_toArray, List.set_cons_zero, List.set_cons_succ, i64_w, i32_w]
        rfl
       refine take_ (i := 1) (N := some 31) (v := ?_) (a' := ?_) #[true, true, false, false, false, false, false, false, false, false, false, false, false, false, false, false, false, false, false] rfl rfl (take_ofW HT_.out HW_.out (by kernel_rfl)) (fun _ _ _ h => h) (Or.inl ⟨by rfl, ?_⟩) hHeld ?_ ?_
       rotate_left
       ·rintro w' ⟨s0, s1, s2, s3, s4, s5, s6, s7, s8, s9, s10, s11⟩
        go_simp
        with_reducible rfl
       rotate_left
       ·simp only [Act.put, List.setIfInBounds_toArray, List.set_cons_zero, List.set_cons_succ, i64_w, i32_w]
        rfl
       refine one_ (i := 2) (N := some 32) #[true, true, true, false, false, false, false, false, false, false, false, false, false, false, false, false, false, false, false] rfl rfl (one_of HT_.out (by kernel_rfl)) (by decide) (fun K hK => ?_)
       refine goes_ Try.func34 (by kernel_rfl) rfl #[.agg #[.int .i64 t196, .bool t197, .int .i64 t198, .int .u64 t199, .slice Ao14 t200.length co14, .int .i64 t203], .agg #[.int .i64 t196, .bool t197, .int .i64 t198, .int .u64 t199, .slice Ao14 t200.length co14, .int .i64 t203]] (by rfl) rfl rfl (by (try simp only [List.map_toArray, List.map_cons, List.map_nil]); first | done | rfl | (simp only [List.length_drop, List.length_take]; rfl)) ?_
       with_reducible refine (impl_Refines.calls kj2 t196 t197 t198 t199 _ _ t200 t203 t196 t197 t198 t199 _ _ t200 t203 true _ ?side1 ?side2 ?side3 ?side4 A29.out).mono ?_
       (case side1 => repeat (first | exact (Kd.R_reads' HO202.out).2.2 | (with_reducible refine Kd.C_alloc ?_ _) | (with_reducible refine Kd.C_drewN ?_ _) | (with_reducible refine Kd.C_drew ?_)))
       (case side2 => exact (Kd.R_reads' HO202.out).2.1)
       (case side3 => repeat (first | exact (Kd.R_reads' HO202.out).2.2 | (with_reducible refine Kd.C_alloc ?_ _) | (with_reducible refine Kd.C_drewN ?_ _) | (with_reducible refine Kd.C_drew ?_)))
       (case side4 => exact (Kd.R_reads' HO202.out).2.1)
       rintro e w37 ⟨rfl, hb⟩
       refine ⟨_, rfl, ?_⟩
       have n0_ := Aside0.mk (Kd.R_below (by exact HO202.out) hb)
       have n1_ := Aside0.mk (Kd.R_below (by exact HO210.out) hb)
       have n2_ := Aside0.mk (Kd.R_below (by exact HO220.out) hb)
       have n3_ := Aside0.mk (Kd.R_below (by exact HO228.out) hb)
       have n4_ := Aside0.mk (blk_below (g := gb212) (o := .cells #[.int .i64 t196, .bool t197, .int .i64 t198, .int .u64 t199, .slice Ao14 t200.length co14, .int .i64 t203] 53 (0, 0)) (by exact BK212.out) hb)
       have n5_ := Aside0.mk (blk_below (g := gb213) (o := .cells #[.int .i64 t204, .bool t205, .int .i64 t206, .int .u64 t207, .slice Ao16 t208.length co16, .int .i64 t211] 53 (0, 0)) (by exact BK213.out) hb)
       have n6_ := Aside0.mk (blk_below (g := gb230) (o := .cells #[.int .i64 t214, .bool t215, .int .i64 t216, .int .u64 t217, .slice Ao24 t218.length co24, .int .i64 t221] 53 (0, 0)) (by exact BK230.out) hb)
       have n7_ := Aside0.mk (blk_below (g := gb231) (o := .cells #[.int .i64 t222, .bool t223, .int .i64 t224, .int .u64 t225, .slice Ao28 t226.length co28, .int .i64 t229] 53 (0, 0)) (by exact BK231.out) hb)
       have n8_ := Aside0.mk (below_step (by repeat (first | (with_reducible first | exact HB.out | apply below_alloc | apply pw_below_drewN | apply below_drew1 | refine below_set ?_ GE212.out | refine below_set ?_ GE213.out | refine below_set ?_ GE230.out | refine below_set ?_ GE231.out) | exact HB.out)) hb)
       clear HO202
       clear HO210
       clear HO220
       clear HO228
       clear BK212
       clear BK213
       clear BK230
       clear BK231
       clear HB
       have HO202 := n0_
       have HO210 := n1_
       have HO220 := n2_
       have HO228 := n3_
       have BK212 := n4_
       have BK213 := n5_
       have BK230 := n6_
       have BK231 := n7_
       have HB := n8_
       clear n0_ n1_ n2_ n3_ n4_ n5_ n6_ n7_ n8_
       (try clear hb)
       (try clear hb2)
       (try clear hk)
       (try clear hi)
       refine hK.out _ _ ⟨(blk_cell BK212.out 0).trans rfl, (blk_cell BK212.out 1).trans rfl, (blk_cell BK212.out 2).trans rfl, (blk_cell BK212.out 3).trans rfl, (blk_cell BK212.out 4).trans rfl, (blk_cell BK212.out 5).trans rfl, (blk_cell BK213.out 0).trans rfl, (blk_cell BK213.out 1).trans rfl, (blk_cell BK213.out 2).trans rfl, (blk_cell BK213.out 3).trans rfl, (blk_cell BK213.out 4).trans rfl, (blk_cell BK213.out 5).trans rfl⟩ (fun hHeld => ?_)
       clear hK K
       refine norm_ (a' := ?_) ?_ ?_
       rotate_left
       ·show Act.put _ (some 32) _ = _
        simp only [Act.put, List.setIfInBounds_toArray, List.set_cons_zero, List.set_cons_succ, i64_w, i32_w]
        rfl
       refine pure_ (i := 3) (N := some 33) (v := ?_) (a' := ?_) #[true, true, true, true, false, false, false, false, false, false, false, false, false, false, false, false, false, false, false] rfl rfl (any_of HT_.out (by kernel_rfl)) (fun _ _ _ h => h) (Or.inl ⟨by rfl, ?_⟩) ?_ ?_
       rotate_left
       ·intro w'
        go_simp
        with_reducible rfl
       rotate_left
       ·simp only [Act.put, List.setIfInBounds_toArray, List.set_cons_zero, List.set_cons_succ, i64_w, i32_w]
        rfl
       refine pure_ (i := 4) (N := some 34) (v := ?_) (a' := ?_) #[true, true, true, true, true, false, false, false, false, false, false, false, false, false, false, false, false, false, false] rfl rfl (any_of HT_.out (by kernel_rfl)) (fun _ _ _ h => h) (Or.inl ⟨by rfl, ?_⟩) ?_ ?_
       rotate_left
       ·intro w'
        go_simp
        with_reducible rfl
       rotate_left
       ·simp only [Act.put, List.setIfInBounds_toArray, List.set_cons_zero, List.set_cons_succ, i64_w, i32_w]
        rfl
       refine take_ (i := 5) (N := some 35) (v := ?_) (a' := ?_) #[true, true, true, true, true, true, false, false, false, false, false, false, false, false, false, false, false, false, false] rfl rfl (take_ofW HT_.out HW_.out (by kernel_rfl)) (fun _ _ _ h => h) (Or.inl ⟨by rfl, ?_⟩) hHeld ?_ ?_
       rotate_left
       ·rintro w' ⟨s0, s1, s2, s3, s4, s5, s6, s7, s8, s9, s10, s11⟩
        go_simp
        with_reducible rfl
       rotate_left
       ·simp only [Act.put, List.setIfInBounds_toArray, List.set_cons_zero, List.set_cons_succ, i64_w, i32_w]
        rfl
       refine take_ (i := 6) (N := some 36) (v := ?_) (a' := ?_) #[true, true, true, true, true, true, true, false, false, false, false, false, false, false, false, false, false, false, false] rfl rfl (take_ofW HT_.out HW_.out (by kernel_rfl)) (fun _ _ _ h => h) (Or.inl ⟨by rfl, ?_⟩) hHeld ?_ ?_
       rotate_left
       ·rintro w' ⟨s0, s1, s2, s3, s4, s5, s6, s7, s8, s9, s10, s11⟩
        go_simp
        with_reducible rfl
       rotate_left
       ·simp only [Act.put, List.setIfInBounds_toArray, List.set_cons_zero, List.set_cons_succ, i64_w, i32_w]
        rfl
       refine one_ (i := 7) (N := some 37) #[true, true, true, true, true, true, true, true, false, false, false, false, false, false, false, false, false, false, false] rfl rfl (one_of HT_.out (by kernel_rfl)) (by decide) (fun K hK => ?_)
       refine goes_ Try.func34 (by kernel_rfl) rfl #[.agg #[.int .i64 t204, .bool t205, .int .i64 t206, .int .u64 t207, .slice Ao16 t208.length co16, .int .i64 t211], .agg #[.int .i64 t204, .bool t205, .int .i64 t206, .int .u64 t207, .slice Ao16 t208.length co16, .int .i64 t211]] (by rfl) rfl rfl (by (try simp only [List.map_toArray, List.map_cons, List.map_nil]); first | done | rfl | (simp only [List.length_drop, List.length_take]; rfl)) ?_
       with_reducible refine (impl_Refines.calls kj2 t204 t205 t206 t207 _ _ t208 t211 t204 t205 t206 t207 _ _ t208 t211 true _ ?side1 ?side2 ?side3 ?side4 A31.out).mono ?_
       (case side1 => repeat (first | exact (Kd.R_reads' HO210.out).2.2 | (with_reducible refine Kd.C_alloc ?_ _) | (with_reducible refine Kd.C_drewN ?_ _) | (with_reducible refine Kd.C_drew ?_)))
       (case side2 => exact (Kd.R_reads' HO210.out).2.1)
       (case side3 => repeat (first | exact (Kd.R_reads' HO210.out).2.2 | (with_reducible refine Kd.C_alloc ?_ _) | (with_reducible refine Kd.C_drewN ?_ _) | (with_reducible refine Kd.C_drew ?_)))
       (case side4 => exact (Kd.R_reads' HO210.out).2.1)
       rintro e w38 ⟨rfl, hb⟩
       refine ⟨_, rfl, ?_⟩
       have n0_ := Aside0.mk (Kd.R_below (by exact HO202.out) hb)
       have n1_ := Aside0.mk (Kd.R_below (by exact HO210.out) hb)
       have n2_ := Aside0.mk (Kd.R_below (by exact HO220.out) hb)
       have n3_ := Aside0.mk (Kd.R_below (by exact HO228.out) hb)
       have n4_ := Aside0.mk (blk_below (g := gb212) (o := .cells #[.int .i64 t196, .bool t197, .int .i64 t198, .int .u64 t199, .slice Ao14 t200.length co14, .int .i64 t203] 53 (0, 0)) (by exact BK212.out) hb)
       have n5_ := Aside0.mk (blk_below (g := gb213) (o := .cells #[.int .i64 t204, .bool t205, .int .i64 t206, .int .u64 t207, .slice Ao16 t208.length co16, .int .i64 t211] 53 (0, 0)) (by exact BK213.out) hb)
       have n6_ := Aside0.mk (blk_below (g := gb230) (o := .cells #[.int .i64 t214, .bool t215, .int .i64 t216, .int .u64 t217, .slice Ao24 t218.length co24, .int .i64 t221] 53 (0, 0)) (by exact BK230.out) hb)
       have n7_ := Aside0.mk (blk_below (g := gb231) (o := .cells #[.int .i64 t222, .bool t223, .int .i64 t224, .int .u64 t225, .slice Ao28 t226.length co28, .int .i64 t229] 53 (0, 0)) (by exact BK231.out) hb)
       have n8_ := Aside0.mk (below_step (by repeat (first | (with_reducible first | exact HB.out | apply below_alloc | apply pw_below_drewN | apply below_drew1 | refine below_set ?_ GE212.out | refine below_set ?_ GE213.out | refine below_set ?_ GE230.out | refine below_set ?_ GE231.out) | exact HB.out)) hb)
       clear HO202
       clear HO210
       clear HO220
       clear HO228
       clear BK212
       clear BK213
       clear BK230
       clear BK231
       clear HB
       have HO202 := n0_
       have HO210 := n1_
       have HO220 := n2_
       have HO228 := n3_
       have BK212 := n4_
       have BK213 := n5_
       have BK230 := n6_
       have BK231 := n7_
       have HB := n8_
       clear n0_ n1_ n2_ n3_ n4_ n5_ n6_ n7_ n8_
       (try clear hb)
       (try clear hb2)
       (try clear hk)
       (try clear hi)
       refine hK.out _ _ ⟨(blk_cell BK212.out 0).trans rfl, (blk_cell BK212.out 1).trans rfl, (blk_cell BK212.out 2).trans rfl, (blk_cell BK212.out 3).trans rfl, (blk_cell BK212.out 4).trans rfl, (blk_cell BK212.out 5).trans rfl, (blk_cell BK213.out 0).trans rfl, (blk_cell BK213.out 1).trans rfl, (blk_cell BK213.out 2).trans rfl, (blk_cell BK213.out 3).trans rfl, (blk_cell BK213.out 4).trans rfl, (blk_cell BK213.out 5).trans rfl⟩ (fun hHeld => ?_)
       clear hK K
       refine norm_ (a' := ?_) ?_ ?_
       rotate_left
       ·show Act.put _ (some 37) _ = _
        simp only [Act.put, List.setIfInBounds_toArray, List.set_cons_zero, List.set_cons_succ, i64_w, i32_w]
        rfl
       refine pure_ (i := 8) (N := some 38) (v := ?_) (a' := ?_) #[true, true, true, true, true, true, true, true, true, false, false, false, false, false, false, false, false, false, false] rfl rfl (any_of HT_.out (by kernel_rfl)) (fun _ _ _ h => h) (Or.inl ⟨by rfl, ?_⟩) ?_ ?_
       rotate_left
       ·intro w'
        go_simp
        with_reducible rfl
       rotate_left
       ·simp only [Act.put, List.setIfInBounds_toArray, List.set_cons_zero, List.set_cons_succ, i64_w, i32_w]
        rfl
       refine pure_ (i := 9) (N := some 39) (v := ?_) (a' := ?_) #[true, true, true, true, true, true, true, true, true, true, false, false, false, false, false, false, false, false, false] rfl rfl (any_of HT_.out (by kernel_rfl)) (fun _ _ _ h => h) (Or.inl ⟨by rfl, ?_⟩) ?_ ?_
       rotate_left
       ·intro w'
        go_simp
        with_reducible rfl
       rotate_left
       ·simp only [Act.put, List.setIfInBounds_toArray, List.set_cons_zero, List.set_cons_succ, i64_w, i32_w]
        rfl
       refine pure_ (i := 10) (N := some 40) (v := ?_) (a' := ?_) #[true, true, true, true, true, true, true, true, true, true, true, false, false, false, false, false, false, false, false] rfl rfl (any_of HT_.out (by kernel_rfl)) (fun _ _ _ h => h) (Or.inl ⟨by rfl, ?_⟩) ?_ ?_
       rotate_left
       ·intro w'
        go_simp
        with_reducible rfl
       rotate_left
       ·simp only [Act.put, List.setIfInBounds_toArray, List.set_cons_zero, List.set_cons_succ, i64_w, i32_w]
        rfl
       refine take_ (i := 11) (N := some 41) (v := ?_) (a' := ?_) #[true, true, true, true, true, true, true, true, true, true, true, true, false, false, false, false, false, false, false] rfl rfl (take_ofW HT_.out HW_.out (by kernel_rfl)) (fun _ _ _ h => h) (Or.inl ⟨by rfl, ?_⟩) hHeld ?_ ?_
       rotate_left
       ·rintro w' ⟨s0, s1, s2, s3, s4, s5, s6, s7, s8, s9, s10, s11⟩
        go_simp
        with_reducible rfl
       rotate_left
       ·simp only [Act.put, List.setIfInBounds_toArray, List.set_cons_zero, List.set_cons_succ, i64_w, i32_w]
        rfl
       refine take_ (i := 12) (N := some 42) (v := ?_) (a' := ?_) #[true, true, true, true, true, true, true, true, true, true, true, true, true, false, false, false, false, false, false] rfl rfl (take_ofW HT_.out HW_.out (by kernel_rfl)) (fun _ _ _ h => h) (Or.inl ⟨by rfl, ?_⟩) hHeld ?_ ?_
       rotate_left
       ·rintro w' ⟨s0, s1, s2, s3, s4, s5, s6, s7, s8, s9, s10, s11⟩
        go_simp
        with_reducible rfl
       rotate_left
       ·simp only [Act.put, List.setIfInBounds_toArray, List.set_cons_zero, List.set_cons_succ, i64_w, i32_w]
        rfl
       refine take_ (i := 14) (N := some 44) (v := ?_) (a' := ?_) #[true, true, true, true, true, true, true, true, true, true, true, true, true, false, true, false, false, false, false] rfl rfl (take_ofW HT_.out HW_.out (by kernel_rfl)) (fun _ _ _ h => h) (Or.inl ⟨by rfl, ?_⟩) hHeld ?_ ?_
       rotate_left
       ·rintro w' ⟨s0, s1, s2, s3, s4, s5, s6, s7, s8, s9, s10, s11⟩
        go_simp
        with_reducible rfl
       rotate_left
       ·simp only [Act.put, List.setIfInBounds_toArray, List.set_cons_zero, List.set_cons_succ, i64_w, i32_w]
        rfl
       refine take_ (i := 15) (N := some 45) (v := ?_) (a' := ?_) #[true, true, true, true, true, true, true, true, true, true, true, true, true, false, true, true, false, false, false] rfl rfl (take_ofW HT_.out HW_.out (by kernel_rfl)) (fun _ _ _ h => h) (Or.inl ⟨by rfl, ?_⟩) hHeld ?_ ?_
       rotate_left
       ·rintro w' ⟨s0, s1, s2, s3, s4, s5, s6, s7, s8, s9, s10, s11⟩
        go_simp
        with_reducible rfl
       rotate_left
       ·simp only [Act.put, List.setIfInBounds_toArray, List.set_cons_zero, List.set_cons_succ, i64_w, i32_w]
        rfl
       refine one_ (i := 13) (N := some 43) #[true, true, true, true, true, true, true, true, true, true, true, true, true, true, true, true, false, false, false] rfl rfl (one_of HT_.out (by kernel_rfl)) (by decide) (fun K hK => ?_)
       refine goes_ Try.func34 (by kernel_rfl) rfl #[.agg #[.int .i64 t196, .bool t197, .int .i64 t198, .int .u64 t199, .slice Ao14 t200.length co14, .int .i64 t203], .agg #[.int .i64 t204, .bool t205, .int .i64 t206, .int .u64 t207, .slice Ao16 t208.length co16, .int .i64 t211]] (by rfl) rfl rfl (by (try simp only [List.map_toArray, List.map_cons, List.map_nil]); first | done | rfl | (simp only [List.length_drop, List.length_take]; rfl)) ?_
       with_reducible refine (impl_Refines.calls kj2 t196 t197 t198 t199 _ _ t200 t203 t204 t205 t206 t207 _ _ t208 t211 t234 _ ?side1 ?side2 ?side3 ?side4 A33.out).mono ?_
       (case side1 => repeat (first | exact (Kd.R_reads' HO202.out).2.2 | (with_reducible refine Kd.C_alloc ?_ _) | (with_reducible refine Kd.C_drewN ?_ _) | (with_reducible refine Kd.C_drew ?_)))
       (case side2 => exact (Kd.R_reads' HO202.out).2.1)
       (case side3 => repeat (first | exact (Kd.R_reads' HO210.out).2.2 | (with_reducible refine Kd.C_alloc ?_ _) | (with_reducible refine Kd.C_drewN ?_ _) | (with_reducible refine Kd.C_drew ?_)))
       (case side4 => exact (Kd.R_reads' HO210.out).2.1)
       rintro e w39 ⟨rfl, hb⟩
       refine ⟨_, rfl, ?_⟩
       have n0_ := Aside0.mk (Kd.R_below (by exact HO202.out) hb)
       have n1_ := Aside0.mk (Kd.R_below (by exact HO210.out) hb)
       have n2_ := Aside0.mk (Kd.R_below (by exact HO220.out) hb)
       have n3_ := Aside0.mk (Kd.R_below (by exact HO228.out) hb)
       have n4_ := Aside0.mk (blk_below (g := gb212) (o := .cells #[.int .i64 t196, .bool t197, .int .i64 t198, .int .u64 t199, .slice Ao14 t200.length co14, .int .i64 t203] 53 (0, 0)) (by exact BK212.out) hb)
       have n5_ := Aside0.mk (blk_below (g := gb213) (o := .cells #[.int .i64 t204, .bool t205, .int .i64 t206, .int .u64 t207, .slice Ao16 t208.length co16, .int .i64 t211] 53 (0, 0)) (by exact BK213.out) hb)
       have n6_ := Aside0.mk (blk_below (g := gb230) (o := .cells #[.int .i64 t214, .bool t215, .int .i64 t216, .int .u64 t217, .slice Ao24 t218.length co24, .int .i64 t221] 53 (0, 0)) (by exact BK230.out) hb)
       have n7_ := Aside0.mk (blk_below (g := gb231) (o := .cells #[.int .i64 t222, .bool t223, .int .i64 t224, .int .u64 t225, .slice Ao28 t226.length co28, .int .i64 t229] 53 (0, 0)) (by exact BK231.out) hb)
       have n8_ := Aside0.mk (below_step (by repeat (first | (with_reducible first | exact HB.out | apply below_alloc | apply pw_below_drewN | apply below_drew1 | refine below_set ?_ GE212.out | refine below_set ?_ GE213.out | refine below_set ?_ GE230.out | refine below_set ?_ GE231.out) | exact HB.out)) hb)
       clear HO202
       clear HO210
       clear HO220
       clear HO228
       clear BK212
       clear BK213
       clear BK230
       clear BK231
       clear HB
       have HO202 := n0_
       have HO210 := n1_
       have HO220 := n2_
       have HO228 := n3_
       have BK212 := n4_
       have BK213 := n5_
       have BK230 := n6_
       have BK231 := n7_
       have HB := n8_
       clear n0_ n1_ n2_ n3_ n4_ n5_ n6_ n7_ n8_
       (try clear hb)
       (try clear hb2)
       (try clear hk)
       (try clear hi)
       refine hK.out _ _ ⟨(blk_cell BK212.out 0).trans rfl, (blk_cell BK212.out 1).trans rfl, (blk_cell BK212.out 2).trans rfl, (blk_cell BK212.out 3).trans rfl, (blk_cell BK212.out 4).trans rfl, (blk_cell BK212.out 5).trans rfl, (blk_cell BK213.out 0).trans rfl, (blk_cell BK213.out 1).trans rfl, (blk_cell BK213.out 2).trans rfl, (blk_cell BK213.out 3).trans rfl, (blk_cell BK213.out 4).trans rfl, (blk_cell BK213.out 5).trans rfl⟩ (fun hHeld => ?_)
       clear hK K
       refine norm_ (a' := ?_) ?_ ?_
       rotate_left
       ·show Act.put _ (some 43) _ = _
        simp only [Act.put, List.setIfInBounds_toArray, List.set_cons_zero, List.set_cons_succ, i64_w, i32_w]
        rfl
       refine one_ (i := 16) (N := some 46) #[true, true, true, true, true, true, true, true, true, true, true, true, true, true, true, true, true, false, false] rfl rfl (one_of HT_.out (by kernel_rfl)) (by decide) (fun K hK => ?_)
       refine goes_ Try.func35 (by kernel_rfl) rfl #[.agg #[.int .i64 t196, .bool t197, .int .i64 t198, .int .u64 t199, .slice Ao14 t200.length co14, .int .i64 t203], .agg #[.int .i64 t204, .bool t205, .int .i64 t206, .int .u64 t207, .slice Ao16 t208.length co16, .int .i64 t211]] (by rfl) rfl rfl (by (try simp only [List.map_toArray, List.map_cons, List.map_nil]); first | done | rfl | (simp only [List.length_drop, List.length_take]; rfl)) ?_
       with_reducible refine (spec_Refines.calls kj2 t196 t197 t198 t199 _ _ t200 t203 t204 t205 t206 t207 _ _ t208 t211 t235 _ ?side1 ?side2 ?side3 ?side4 A34.out).mono ?_
       (case side1 => repeat (first | exact (Kd.R_reads' HO202.out).2.2 | (with_reducible refine Kd.C_alloc ?_ _) | (with_reducible refine Kd.C_drewN ?_ _) | (with_reducible refine Kd.C_drew ?_)))
       (case side2 => exact (Kd.R_reads' HO202.out).2.1)
       (case side3 => repeat (first | exact (Kd.R_reads' HO210.out).2.2 | (with_reducible refine Kd.C_alloc ?_ _) | (with_reducible refine Kd.C_drewN ?_ _) | (with_reducible refine Kd.C_drew ?_)))
       (case side4 => exact (Kd.R_reads' HO210.out).2.1)
       rintro e w40 ⟨rfl, hb⟩
       refine ⟨_, rfl, ?_⟩
       have n0_ := Aside0.mk (Kd.R_below (by exact HO202.out) hb)
       have n1_ := Aside0.mk (Kd.R_below (by exact HO210.out) hb)
       have n2_ := Aside0.mk (Kd.R_below (by exact HO220.out) hb)
       have n3_ := Aside0.mk (Kd.R_below (by exact HO228.out) hb)
       have n4_ := Aside0.mk (blk_below (g := gb212) (o := .cells #[.int .i64 t196, .bool t197, .int .i64 t198, .int .u64 t199, .slice Ao14 t200.length co14, .int .i64 t203] 53 (0, 0)) (by exact BK212.out) hb)
       have n5_ := Aside0.mk (blk_below (g := gb213) (o := .cells #[.int .i64 t204, .bool t205, .int .i64 t206, .int .u64 t207, .slice Ao16 t208.length co16, .int .i64 t211] 53 (0, 0)) (by exact BK213.out) hb)
       have n6_ := Aside0.mk (blk_below (g := gb230) (o := .cells #[.int .i64 t214, .bool t215, .int .i64 t216, .int .u64 t217, .slice Ao24 t218.length co24, .int .i64 t221] 53 (0, 0)) (by exact BK230.out) hb)
       have n7_ := Aside0.mk (blk_below (g := gb231) (o := .cells #[.int .i64 t222, .bool t223, .int .i64 t224, .int .u64 t225, .slice Ao28 t226.length co28, .int .i64 t229] 53 (0, 0)) (by exact BK231.out) hb)
       have n8_ := Aside0.mk (below_step (by repeat (first | (with_reducible first | exact HB.out | apply below_alloc | apply pw_below_drewN | apply below_drew1 | refine below_set ?_ GE212.out | refine below_set ?_ GE213.out | refine below_set ?_ GE230.out | refine below_set ?_ GE231.out) | exact HB.out)) hb)
       clear HO202
       clear HO210
       clear HO220
       clear HO228
       clear BK212
       clear BK213
       clear BK230
       clear BK231
       clear HB
       have HO202 := n0_
       have HO210 := n1_
       have HO220 := n2_
       have HO228 := n3_
       have BK212 := n4_
       have BK213 := n5_
       have BK230 := n6_
       have BK231 := n7_
       have HB := n8_
       clear n0_ n1_ n2_ n3_ n4_ n5_ n6_ n7_ n8_
       (try clear hb)
       (try clear hb2)
       (try clear hk)
       (try clear hi)
       refine hK.out _ _ ⟨(blk_cell BK212.out 0).trans rfl, (blk_cell BK212.out 1).trans rfl, (blk_cell BK212.out 2).trans rfl, (blk_cell BK212.out 3).trans rfl, (blk_cell BK212.out 4).trans rfl, (blk_cell BK212.out 5).trans rfl, (blk_cell BK213.out 0).trans rfl, (blk_cell BK213.out 1).trans rfl, (blk_cell BK213.out 2).trans rfl, (blk_cell BK213.out 3).trans rfl, (blk_cell BK213.out 4).trans rfl, (blk_cell BK213.out 5).trans rfl⟩ (fun hHeld => ?_)
       clear hK K
       refine norm_ (a' := ?_) ?_ ?_
       rotate_left
       ·show Act.put _ (some 46) _ = _
        simp only [Act.put, List.setIfInBounds_toArray, List.set_cons_zero, List.set_cons_succ, i64_w, i32_w]
        rfl
       refine pure_ (i := 17) (N := some 47) (v := ?_) (a' := ?_) #[true, true, true, true, true, true, true, true, true, true, true, true, true, true, true, true, true, true, false] rfl rfl (any_of HT_.out (by kernel_rfl)) (fun _ _ _ h => h) (Or.inl ⟨by rfl, ?_⟩) ?_ ?_
       rotate_left
       ·intro w'
        go_simp
        with_reducible rfl
       rotate_left
       ·simp only [Act.put, List.setIfInBounds_toArray, List.set_cons_zero, List.set_cons_succ, i64_w, i32_w]
        rfl
       refine pure_ (i := 18) (N := some 48) (v := ?_) (a' := ?_) #[true, true, true, true, true, true, true, true, true, true, true, true, true, true, true, true, true, true, true] rfl rfl (any_of HT_.out (by kernel_rfl)) (fun _ _ _ h => h) (Or.inl ⟨by rfl, ?_⟩) ?_ ?_
       rotate_left
       ·intro w'
        go_simp
        with_reducible rfl
       rotate_left
       ·simp only [Act.put, List.setIfInBounds_toArray, List.set_cons_zero, List.set_cons_succ, i64_w, i32_w]
        rfl
       refine done_ (done_of HT_.out (by kernel_rfl)) ?_
       try go_wp2
       go_meet
       case rel => exact ⟨_, ((t234 != t235)), (by first | rfl | (simp; done) | (simp [*]; done)), H', ⟨by have := HJ2.out; first | omega | exact Nat.le_refl _⟩, ⟨by exact HO202.out⟩, ⟨by exact HO210.out⟩, ⟨by exact HO220.out⟩, ⟨by exact HO228.out⟩, ⟨by exact BK212.out⟩, ⟨by exact BK213.out⟩, ⟨by exact BK230.out⟩, ⟨by exact BK231.out⟩, ⟨by repeat (first | (with_reducible first | exact HB.out | apply below_alloc | apply pw_below_drewN | apply below_drew1 | refine below_set ?_ GE212.out | refine below_set ?_ GE213.out | refine below_set ?_ GE230.out | refine below_set ?_ GE231.out) | exact HB.out)⟩⟩
      ·replace c32 := Bool.eq_false_iff.mpr c32
       subst c32
       have H1 : (laws_FnRefines.j1 kj2 true t196 t197 t198 t199 t200 t203 t204 t205 t206 t207 t208 t211 t222 t223 t224 t225 t226 t229) = some r := by rw [if_neg (show ¬ (false = true) by decide)] at H; exact H
       clear H
       have H := H1
       clear H1
       have H' := Aside0.mk H
       clear H
       try go_wp2
       have n0_ : Aside0 (Kd.R (Kd.int .u64) 38 ((((((((((((w19.setCell ⟨gb230, 0, none⟩ (.int .i64 t214)).setCell ⟨gb230, 1, none⟩ (.bool t215)).setCell ⟨gb230, 2, none⟩ (.int .i64 t216)).setCell ⟨gb230, 3, none⟩ (.int .u64 t217)).setCell ⟨gb230, 4, none⟩ (.slice Ao24 t218.length co24)).setCell ⟨gb230, 5, none⟩ (.int .i64 t221)).setCell ⟨gb231, 0, none⟩ (.int .i64 t222)).setCell ⟨gb231, 1, none⟩ (.bool t223)).setCell ⟨gb231, 2, none⟩ (.int .i64 t224)).setCell ⟨gb231, 3, none⟩ (.int .u64 t225)).setCell ⟨gb231, 4, none⟩ (.slice Ao28 t226.length co28)).setCell ⟨gb231, 5, none⟩ (.int .i64 t229)) w.heap.size (fun k_ => some k_ ≠ (.slice Ao16 t208.length co16 : Value).ownBlock ∧ some k_ ≠ (.slice Ao24 t218.length co24 : Value).ownBlock ∧ some k_ ≠ (.slice Ao28 t226.length co28 : Value).ownBlock) (.slice Ao14 t200.length co14) t200) := ⟨by exact Kd.R_mono (Kd.R_far (p := ⟨gb231, 5, none⟩) (Kd.R_far (p := ⟨gb231, 4, none⟩) (Kd.R_far (p := ⟨gb231, 3, none⟩) (Kd.R_far (p := ⟨gb231, 2, none⟩) (Kd.R_far (p := ⟨gb231, 1, none⟩) (Kd.R_far (p := ⟨gb231, 0, none⟩) (Kd.R_far (p := ⟨gb230, 5, none⟩) (Kd.R_far (p := ⟨gb230, 4, none⟩) (Kd.R_far (p := ⟨gb230, 3, none⟩) (Kd.R_far (p := ⟨gb230, 2, none⟩) (Kd.R_far (p := ⟨gb230, 1, none⟩) (Kd.R_far (p := ⟨gb230, 0, none⟩) (Kd.R_types (Kd.R_types HO202.out BK230.out (by decide)) BK231.out (by decide)) (fun _ hk => hk.1.2) (.int .i64 t214)) (fun _ hk => hk.1.2) (.bool t215)) (fun _ hk => hk.1.2) (.int .i64 t216)) (fun _ hk => hk.1.2) (.int .u64 t217)) (fun _ hk => hk.1.2) (.slice Ao24 t218.length co24)) (fun _ hk => hk.1.2) (.int .i64 t221)) (fun _ hk => hk.2) (.int .i64 t222)) (fun _ hk => hk.2) (.bool t223)) (fun _ hk => hk.2) (.int .i64 t224)) (fun _ hk => hk.2) (.int .u64 t225)) (fun _ hk => hk.2) (.slice Ao28 t226.length co28)) (fun _ hk => hk.2) (.int .i64 t229)) (fun _ hk => ⟨hk.1.1.1.1, ⟨hk.1.1.1.2, hk.1.1.2⟩⟩)⟩
       have n1_ : Aside0 (Kd.R (Kd.int .u64) 38 ((((((((((((w19.setCell ⟨gb230, 0, none⟩ (.int .i64 t214)).setCell ⟨gb230, 1, none⟩ (.bool t215)).setCell ⟨gb230, 2, none⟩ (.int .i64 t216)).setCell ⟨gb230, 3, none⟩ (.int .u64 t217)).setCell ⟨gb230, 4, none⟩ (.slice Ao24 t218.length co24)).setCell ⟨gb230, 5, none⟩ (.int .i64 t221)).setCell ⟨gb231, 0, none⟩ (.int .i64 t222)).setCell ⟨gb231, 1, none⟩ (.bool t223)).setCell ⟨gb231, 2, none⟩ (.int .i64 t224)).setCell ⟨gb231, 3, none⟩ (.int .u64 t225)).setCell ⟨gb231, 4, none⟩ (.slice Ao28 t226.length co28)).setCell ⟨gb231, 5, none⟩ (.int .i64 t229)) w.heap.size (fun k_ => some k_ ≠ (.slice Ao14 t200.length co14 : Value).ownBlock ∧ some k_ ≠ (.slice Ao24 t218.length co24 : Value).ownBlock ∧ some k_ ≠ (.slice Ao28 t226.length co28 : Value).ownBlock) (.slice Ao16 t208.length co16) t208) := ⟨by exact Kd.R_mono (Kd.R_far (p := ⟨gb231, 5, none⟩) (Kd.R_far (p := ⟨gb231, 4, none⟩) (Kd.R_far (p := ⟨gb231, 3, none⟩) (Kd.R_far (p := ⟨gb231, 2, none⟩) (Kd.R_far (p := ⟨gb231, 1, none⟩) (Kd.R_far (p := ⟨gb231, 0, none⟩) (Kd.R_far (p := ⟨gb230, 5, none⟩) (Kd.R_far (p := ⟨gb230, 4, none⟩) (Kd.R_far (p := ⟨gb230, 3, none⟩) (Kd.R_far (p := ⟨gb230, 2, none⟩) (Kd.R_far (p := ⟨gb230, 1, none⟩) (Kd.R_far (p := ⟨gb230, 0, none⟩) (Kd.R_types (Kd.R_types HO210.out BK230.out (by decide)) BK231.out (by decide)) (fun _ hk => hk.1.2) (.int .i64 t214)) (fun _ hk => hk.1.2) (.bool t215)) (fun _ hk => hk.1.2) (.int .i64 t216)) (fun _ hk => hk.1.2) (.int .u64 t217)) (fun _ hk => hk.1.2) (.slice Ao24 t218.length co24)) (fun _ hk => hk.1.2) (.int .i64 t221)) (fun _ hk => hk.2) (.int .i64 t222)) (fun _ hk => hk.2) (.bool t223)) (fun _ hk => hk.2) (.int .i64 t224)) (fun _ hk => hk.2) (.int .u64 t225)) (fun _ hk => hk.2) (.slice Ao28 t226.length co28)) (fun _ hk => hk.2) (.int .i64 t229)) (fun _ hk => ⟨hk.1.1.1.1, ⟨hk.1.1.1.2, hk.1.1.2⟩⟩)⟩
       have n2_ : Aside0 (Kd.R (Kd.int .u64) 38 ((((((((((((w19.setCell ⟨gb230, 0, none⟩ (.int .i64 t214)).setCell ⟨gb230, 1, none⟩ (.bool t215)).setCell ⟨gb230, 2, none⟩ (.int .i64 t216)).setCell ⟨gb230, 3, none⟩ (.int .u64 t217)).setCell ⟨gb230, 4, none⟩ (.slice Ao24 t218.length co24)).setCell ⟨gb230, 5, none⟩ (.int .i64 t221)).setCell ⟨gb231, 0, none⟩ (.int .i64 t222)).setCell ⟨gb231, 1, none⟩ (.bool t223)).setCell ⟨gb231, 2, none⟩ (.int .i64 t224)).setCell ⟨gb231, 3, none⟩ (.int .u64 t225)).setCell ⟨gb231, 4, none⟩ (.slice Ao28 t226.length co28)).setCell ⟨gb231, 5, none⟩ (.int .i64 t229)) w.heap.size (fun k_ => some k_ ≠ (.slice Ao14 t200.length co14 : Value).ownBlock ∧ some k_ ≠ (.slice Ao16 t208.length co16 : Value).ownBlock ∧ some k_ ≠ (.slice Ao28 t226.length co28 : Value).ownBlock) (.slice Ao24 t218.length co24) t218) := ⟨by exact Kd.R_mono (Kd.R_far (p := ⟨gb231, 5, none⟩) (Kd.R_far (p := ⟨gb231, 4, none⟩) (Kd.R_far (p := ⟨gb231, 3, none⟩) (Kd.R_far (p := ⟨gb231, 2, none⟩) (Kd.R_far (p := ⟨gb231, 1, none⟩) (Kd.R_far (p := ⟨gb231, 0, none⟩) (Kd.R_far (p := ⟨gb230, 5, none⟩) (Kd.R_far (p := ⟨gb230, 4, none⟩) (Kd.R_far (p := ⟨gb230, 3, none⟩) (Kd.R_far (p := ⟨gb230, 2, none⟩) (Kd.R_far (p := ⟨gb230, 1, none⟩) (Kd.R_far (p := ⟨gb230, 0, none⟩) (Kd.R_types (Kd.R_types HO220.out BK230.out (by decide)) BK231.out (by decide)) (fun _ hk => hk.1.2) (.int .i64 t214)) (fun _ hk => hk.1.2) (.bool t215)) (fun _ hk => hk.1.2) (.int .i64 t216)) (fun _ hk => hk.1.2) (.int .u64 t217)) (fun _ hk => hk.1.2) (.slice Ao24 t218.length co24)) (fun _ hk => hk.1.2) (.int .i64 t221)) (fun _ hk => hk.2) (.int .i64 t222)) (fun _ hk => hk.2) (.bool t223)) (fun _ hk => hk.2) (.int .i64 t224)) (fun _ hk => hk.2) (.int .u64 t225)) (fun _ hk => hk.2) (.slice Ao28 t226.length co28)) (fun _ hk => hk.2) (.int .i64 t229)) (fun _ hk => ⟨hk.1.1.1.2, ⟨hk.1.1.2, hk.1.1.1.1⟩⟩)⟩
       have n3_ : Aside0 (Kd.R (Kd.int .u64) 38 ((((((((((((w19.setCell ⟨gb230, 0, none⟩ (.int .i64 t214)).setCell ⟨gb230, 1, none⟩ (.bool t215)).setCell ⟨gb230, 2, none⟩ (.int .i64 t216)).setCell ⟨gb230, 3, none⟩ (.int .u64 t217)).setCell ⟨gb230, 4, none⟩ (.slice Ao24 t218.length co24)).setCell ⟨gb230, 5, none⟩ (.int .i64 t221)).setCell ⟨gb231, 0, none⟩ (.int .i64 t222)).setCell ⟨gb231, 1, none⟩ (.bool t223)).setCell ⟨gb231, 2, none⟩ (.int .i64 t224)).setCell ⟨gb231, 3, none⟩ (.int .u64 t225)).setCell ⟨gb231, 4, none⟩ (.slice Ao28 t226.length co28)).setCell ⟨gb231, 5, none⟩ (.int .i64 t229)) w.heap.size (fun k_ => some k_ ≠ (.slice Ao14 t200.length co14 : Value).ownBlock ∧ some k_ ≠ (.slice Ao16 t208.length co16 : Value).ownBlock ∧ some k_ ≠ (.slice Ao24 t218.length co24 : Value).ownBlock) (.slice Ao28 t226.length co28) t226) := ⟨by exact Kd.R_mono (Kd.R_far (p := ⟨gb231, 5, none⟩) (Kd.R_far (p := ⟨gb231, 4, none⟩) (Kd.R_far (p := ⟨gb231, 3, none⟩) (Kd.R_far (p := ⟨gb231, 2, none⟩) (Kd.R_far (p := ⟨gb231, 1, none⟩) (Kd.R_far (p := ⟨gb231, 0, none⟩) (Kd.R_far (p := ⟨gb230, 5, none⟩) (Kd.R_far (p := ⟨gb230, 4, none⟩) (Kd.R_far (p := ⟨gb230, 3, none⟩) (Kd.R_far (p := ⟨gb230, 2, none⟩) (Kd.R_far (p := ⟨gb230, 1, none⟩) (Kd.R_far (p := ⟨gb230, 0, none⟩) (Kd.R_types (Kd.R_types HO228.out BK230.out (by decide)) BK231.out (by decide)) (fun _ hk => hk.1.2) (.int .i64 t214)) (fun _ hk => hk.1.2) (.bool t215)) (fun _ hk => hk.1.2) (.int .i64 t216)) (fun _ hk => hk.1.2) (.int .u64 t217)) (fun _ hk => hk.1.2) (.slice Ao24 t218.length co24)) (fun _ hk => hk.1.2) (.int .i64 t221)) (fun _ hk => hk.2) (.int .i64 t222)) (fun _ hk => hk.2) (.bool t223)) (fun _ hk => hk.2) (.int .i64 t224)) (fun _ hk => hk.2) (.int .u64 t225)) (fun _ hk => hk.2) (.slice Ao28 t226.length co28)) (fun _ hk => hk.2) (.int .i64 t229)) (fun _ hk => ⟨hk.1.1.1.2, ⟨hk.1.1.2, hk.1.1.1.1⟩⟩)⟩
       have n4_ : Aside0 (((((((((((((w19.setCell ⟨gb230, 0, none⟩ (.int .i64 t214)).setCell ⟨gb230, 1, none⟩ (.bool t215)).setCell ⟨gb230, 2, none⟩ (.int .i64 t216)).setCell ⟨gb230, 3, none⟩ (.int .u64 t217)).setCell ⟨gb230, 4, none⟩ (.slice Ao24 t218.length co24)).setCell ⟨gb230, 5, none⟩ (.int .i64 t221)).setCell ⟨gb231, 0, none⟩ (.int .i64 t222)).setCell ⟨gb231, 1, none⟩ (.bool t223)).setCell ⟨gb231, 2, none⟩ (.int .i64 t224)).setCell ⟨gb231, 3, none⟩ (.int .u64 t225)).setCell ⟨gb231, 4, none⟩ (.slice Ao28 t226.length co28)).setCell ⟨gb231, 5, none⟩ (.int .i64 t229)).heap[gb212]? = some (.cells #[.int .i64 t196, .bool t197, .int .i64 t198, .int .u64 t199, .slice Ao14 t200.length co14, .int .i64 t203] 53 (0, 0))) := ⟨by refine blk_far ?_ NB212_231.out _; refine blk_far ?_ NB212_231.out _; refine blk_far ?_ NB212_231.out _; refine blk_far ?_ NB212_231.out _; refine blk_far ?_ NB212_231.out _; refine blk_far ?_ NB212_231.out _; refine blk_far ?_ NB212_230.out _; refine blk_far ?_ NB212_230.out _; refine blk_far ?_ NB212_230.out _; refine blk_far ?_ NB212_230.out _; refine blk_far ?_ NB212_230.out _; refine blk_far ?_ NB212_230.out _; exact BK212.out⟩
       have n5_ : Aside0 (((((((((((((w19.setCell ⟨gb230, 0, none⟩ (.int .i64 t214)).setCell ⟨gb230, 1, none⟩ (.bool t215)).setCell ⟨gb230, 2, none⟩ (.int .i64 t216)).setCell ⟨gb230, 3, none⟩ (.int .u64 t217)).setCell ⟨gb230, 4, none⟩ (.slice Ao24 t218.length co24)).setCell ⟨gb230, 5, none⟩ (.int .i64 t221)).setCell ⟨gb231, 0, none⟩ (.int .i64 t222)).setCell ⟨gb231, 1, none⟩ (.bool t223)).setCell ⟨gb231, 2, none⟩ (.int .i64 t224)).setCell ⟨gb231, 3, none⟩ (.int .u64 t225)).setCell ⟨gb231, 4, none⟩ (.slice Ao28 t226.length co28)).setCell ⟨gb231, 5, none⟩ (.int .i64 t229)).heap[gb213]? = some (.cells #[.int .i64 t204, .bool t205, .int .i64 t206, .int .u64 t207, .slice Ao16 t208.length co16, .int .i64 t211] 53 (0, 0))) := ⟨by refine blk_far ?_ NB213_231.out _; refine blk_far ?_ NB213_231.out _; refine blk_far ?_ NB213_231.out _; refine blk_far ?_ NB213_231.out _; refine blk_far ?_ NB213_231.out _; refine blk_far ?_ NB213_231.out _; refine blk_far ?_ NB213_230.out _; refine blk_far ?_ NB213_230.out _; refine blk_far ?_ NB213_230.out _; refine blk_far ?_ NB213_230.out _; refine blk_far ?_ NB213_230.out _; refine blk_far ?_ NB213_230.out _; exact BK213.out⟩
       have n6_ : Aside0 (((((((((((((w19.setCell ⟨gb230, 0, none⟩ (.int .i64 t214)).setCell ⟨gb230, 1, none⟩ (.bool t215)).setCell ⟨gb230, 2, none⟩ (.int .i64 t216)).setCell ⟨gb230, 3, none⟩ (.int .u64 t217)).setCell ⟨gb230, 4, none⟩ (.slice Ao24 t218.length co24)).setCell ⟨gb230, 5, none⟩ (.int .i64 t221)).setCell ⟨gb231, 0, none⟩ (.int .i64 t222)).setCell ⟨gb231, 1, none⟩ (.bool t223)).setCell ⟨gb231, 2, none⟩ (.int .i64 t224)).setCell ⟨gb231, 3, none⟩ (.int .u64 t225)).setCell ⟨gb231, 4, none⟩ (.slice Ao28 t226.length co28)).setCell ⟨gb231, 5, none⟩ (.int .i64 t229)).heap[gb230]? = some (.cells #[.int .i64 t214, .bool t215, .int .i64 t216, .int .u64 t217, .slice Ao24 t218.length co24, .int .i64 t221] 53 (0, 0))) := ⟨by refine blk_far ?_ NB230_231.out _; refine blk_far ?_ NB230_231.out _; refine blk_far ?_ NB230_231.out _; refine blk_far ?_ NB230_231.out _; refine blk_far ?_ NB230_231.out _; refine blk_far ?_ NB230_231.out _; refine blk_put (cs := #[.int .i64 t214, .bool t215, .int .i64 t216, .int .u64 t217, .slice Ao24 t218.length co24, .int .i64 0]) ?_ 5 _ rfl; refine blk_put (cs := #[.int .i64 t214, .bool t215, .int .i64 t216, .int .u64 t217, .slice none 0 0, .int .i64 0]) ?_ 4 _ rfl; refine blk_put (cs := #[.int .i64 t214, .bool t215, .int .i64 t216, .int .u64 0, .slice none 0 0, .int .i64 0]) ?_ 3 _ rfl; refine blk_put (cs := #[.int .i64 t214, .bool t215, .int .i64 0, .int .u64 0, .slice none 0 0, .int .i64 0]) ?_ 2 _ rfl; refine blk_put (cs := #[.int .i64 t214, .bool false, .int .i64 0, .int .u64 0, .slice none 0 0, .int .i64 0]) ?_ 1 _ rfl; refine blk_put (cs := #[.int .i64 0, .bool false, .int .i64 0, .int .u64 0, .slice none 0 0, .int .i64 0]) ?_ 0 _ rfl; exact BK230.out⟩
       have n7_ : Aside0 (((((((((((((w19.setCell ⟨gb230, 0, none⟩ (.int .i64 t214)).setCell ⟨gb230, 1, none⟩ (.bool t215)).setCell ⟨gb230, 2, none⟩ (.int .i64 t216)).setCell ⟨gb230, 3, none⟩ (.int .u64 t217)).setCell ⟨gb230, 4, none⟩ (.slice Ao24 t218.length co24)).setCell ⟨gb230, 5, none⟩ (.int .i64 t221)).setCell ⟨gb231, 0, none⟩ (.int .i64 t222)).setCell ⟨gb231, 1, none⟩ (.bool t223)).setCell ⟨gb231, 2, none⟩ (.int .i64 t224)).setCell ⟨gb231, 3, none⟩ (.int .u64 t225)).setCell ⟨gb231, 4, none⟩ (.slice Ao28 t226.length co28)).setCell ⟨gb231, 5, none⟩ (.int .i64 t229)).heap[gb231]? = some (.cells #[.int .i64 t222, .bool t223, .int .i64 t224, .int .u64 t225, .slice Ao28 t226.length co28, .int .i64 t229] 53 (0, 0))) := ⟨by refine blk_put (cs := #[.int .i64 t222, .bool t223, .int .i64 t224, .int .u64 t225, .slice Ao28 t226.length co28, .int .i64 0]) ?_ 5 _ rfl; refine blk_put (cs := #[.int .i64 t222, .bool t223, .int .i64 t224, .int .u64 t225, .slice none 0 0, .int .i64 0]) ?_ 4 _ rfl; refine blk_put (cs := #[.int .i64 t222, .bool t223, .int .i64 t224, .int .u64 0, .slice none 0 0, .int .i64 0]) ?_ 3 _ rfl; refine blk_put (cs := #[.int .i64 t222, .bool t223, .int .i64 0, .int .u64 0, .slice none 0 0, .int .i64 0]) ?_ 2 _ rfl; refine blk_put (cs := #[.int .i64 t222, .bool false, .int .i64 0, .int .u64 0, .slice none 0 0, .int .i64 0]) ?_ 1 _ rfl; refine blk_put (cs := #[.int .i64 0, .bool false, .int .i64 0, .int .u64 0, .slice none 0 0, .int .i64 0]) ?_ 0 _ rfl; refine blk_far ?_ NB231_230.out _; refine blk_far ?_ NB231_230.out _; refine blk_far ?_ NB231_230.out _; refine blk_far ?_ NB231_230.out _; refine blk_far ?_ NB231_230.out _; refine blk_far ?_ NB231_230.out _; exact BK231.out⟩
       have n8_ : Aside0 (Below w.heap.size w ((((((((((((w19.setCell ⟨gb230, 0, none⟩ (.int .i64 t214)).setCell ⟨gb230, 1, none⟩ (.bool t215)).setCell ⟨gb230, 2, none⟩ (.int .i64 t216)).setCell ⟨gb230, 3, none⟩ (.int .u64 t217)).setCell ⟨gb230, 4, none⟩ (.slice Ao24 t218.length co24)).setCell ⟨gb230, 5, none⟩ (.int .i64 t221)).setCell ⟨gb231, 0, none⟩ (.int .i64 t222)).setCell ⟨gb231, 1, none⟩ (.bool t223)).setCell ⟨gb231, 2, none⟩ (.int .i64 t224)).setCell ⟨gb231, 3, none⟩ (.int .u64 t225)).setCell ⟨gb231, 4, none⟩ (.slice Ao28 t226.length co28)).setCell ⟨gb231, 5, none⟩ (.int .i64 t229))) := ⟨by repeat (first | (with_reducible first | exact HB.out | apply below_alloc | apply pw_below_drewN | apply below_drew1 | refine below_set ?_ GE212.out | refine below_set ?_ GE213.out | refine below_set ?_ GE230.out | refine below_set ?_ GE231.out) | exact HB.out)⟩
       (try clear HO202)
       (try clear HO210)
       (try clear HO220)
       (try clear HO228)
       (try clear BK212)
       (try clear BK213)
       (try clear BK230)
       (try clear BK231)
       (try clear HB)
       generalize ((((((((((((w19.setCell ⟨gb230, 0, none⟩ (.int .i64 t214)).setCell ⟨gb230, 1, none⟩ (.bool t215)).setCell ⟨gb230, 2, none⟩ (.int .i64 t216)).setCell ⟨gb230, 3, none⟩ (.int .u64 t217)).setCell ⟨gb230, 4, none⟩ (.slice Ao24 t218.length co24)).setCell ⟨gb230, 5, none⟩ (.int .i64 t221)).setCell ⟨gb231, 0, none⟩ (.int .i64 t222)).setCell ⟨gb231, 1, none⟩ (.bool t223)).setCell ⟨gb231, 2, none⟩ (.int .i64 t224)).setCell ⟨gb231, 3, none⟩ (.int .u64 t225)).setCell ⟨gb231, 4, none⟩ (.slice Ao28 t226.length co28)).setCell ⟨gb231, 5, none⟩ (.int .i64 t229)) = w41 at n0_ n1_ n2_ n3_ n4_ n5_ n6_ n7_ n8_ ⊢
       have HO202 := n0_
       have HO210 := n1_
       have HO220 := n2_
       have HO228 := n3_
       have BK212 := n4_
       have BK213 := n5_
       have BK230 := n6_
       have BK231 := n7_
       have HB := n8_
       clear n0_ n1_ n2_ n3_ n4_ n5_ n6_ n7_ n8_
       have n0_ := Aside0.mk (Kd.R_drew HO202.out)
       have n1_ := Aside0.mk (Kd.R_drew HO210.out)
       have n2_ := Aside0.mk (Kd.R_drew HO220.out)
       have n3_ := Aside0.mk (Kd.R_drew HO228.out)
       have n4_ := Aside0.mk (blk_drew BK212.out)
       have n5_ := Aside0.mk (blk_drew BK213.out)
       have n6_ := Aside0.mk (blk_drew BK230.out)
       have n7_ := Aside0.mk (blk_drew BK231.out)
       have n8_ := Aside0.mk (below_drew1 HB.out)
       clear HO202
       clear HO210
       clear HO220
       clear HO228
       clear BK212
       clear BK213
       clear BK230
       clear BK231
       clear HB
       have HO202 := n0_
       have HO210 := n1_
       have HO220 := n2_
       have HO228 := n3_
       have BK212 := n4_
       have BK213 := n5_
       have BK230 := n6_
       have BK231 := n7_
       have HB := n8_
       clear n0_ n1_ n2_ n3_ n4_ n5_ n6_ n7_ n8_
       refine start_ (n := 19) (S := fun w' => w'.cell? ⟨gb212, 0, none⟩ = some (.int .i64 t196) ∧ w'.cell? ⟨gb212, 1, none⟩ = some (.bool t197) ∧ w'.cell? ⟨gb212, 2, none⟩ = some (.int .i64 t198) ∧ w'.cell? ⟨gb212, 3, none⟩ = some (.int .u64 t199) ∧ w'.cell? ⟨gb212, 4, none⟩ = some (.slice Ao14 t200.length co14) ∧ w'.cell? ⟨gb212, 5, none⟩ = some (.int .i64 t203) ∧ w'.cell? ⟨gb213, 0, none⟩ = some (.int .i64 t204) ∧ w'.cell? ⟨gb213, 1, none⟩ = some (.bool t205) ∧ w'.cell? ⟨gb213, 2, none⟩ = some (.int .i64 t206) ∧ w'.cell? ⟨gb213, 3, none⟩ = some (.int .u64 t207) ∧ w'.cell? ⟨gb213, 4, none⟩ = some (.slice Ao16 t208.length co16) ∧ w'.cell? ⟨gb213, 5, none⟩ = some (.int .i64 t211)) (ds := []) #[false, false, false, false, false, false, false, false, false, false, false, false, false, false, false, false, false, false, false] (by kernel_rfl) rfl rfl ⟨(blk_cell BK212.out 0).trans rfl, (blk_cell BK212.out 1).trans rfl, (blk_cell BK212.out 2).trans rfl, (blk_cell BK212.out 3).trans rfl, (blk_cell BK212.out 4).trans rfl, (blk_cell BK212.out 5).trans rfl, (blk_cell BK213.out 0).trans rfl, (blk_cell BK213.out 1).trans rfl, (blk_cell BK213.out 2).trans rfl, (blk_cell BK213.out 3).trans rfl, (blk_cell BK213.out 4).trans rfl, (blk_cell BK213.out 5).trans rfl⟩ (fun hHeld => ?_); refine with_tabW laws_FnRefines.tab5 laws_FnRefines.bits5 (fun HT_ HW_ => ?_)
       generalize w41.drew = w42 at HO202 HO210 HO220 HO228 BK212 BK213 BK230 BK231 HB hHeld ⊢
       refine take_ (i := 0) (N := some 30) (v := ?_) (a' := ?_) #[true, false, false, false, false, false, false, false, false, false, false, false, false, false, false, false, false, false, false] rfl rfl (take_ofW HT_.out HW_.out (by kernel_rfl)) (fun _ _ _ h => h) (Or.inl ⟨by rfl, ?_⟩) hHeld ?_ ?_
       rotate_left
       ·rintro w' ⟨s0, s1, s2, s3, s4, s5, s6, s7, s8, s9, s10, s11⟩
        go_simp
        with_reducible rfl
       rotate_left
       ·simp only [Act.put, List.setIfInBounds_toArray, List.set_cons_zero, List.set_cons_succ, i64_w, i32_w]
        rfl
       refine take_ (i := 1) (N := some 31) (v := ?_) (a' := ?_) #[true, true, false, false, false, false, false, false, false, false, false, false, false, false, false, false, false, false, false] rfl rfl (take_ofW HT_.out HW_.out (by kernel_rfl)) (fun _ _ _ h => h) (Or.inl ⟨by rfl, ?_⟩) hHeld ?_ ?_
       rotate_left
       ·rintro w' ⟨s0, s1, s2, s3, s4, s5, s6, s7, s8, s9, s10, s11⟩
        go_simp
        with_reducible rfl
       rotate_left
       ·simp only [Act.put, List.setIfInBounds_toArray, List.set_cons_zero, List.set_cons_succ, i64_w, i32_w]
        rfl
       refine one_ (i := 2) (N := some 32) #[true, true, true, false, false, false, false, false, false, false, false, false, false, false, false, false, false, false, false] rfl rfl (one_of HT_.out (by kernel_rfl)) (by decide) (fun K hK => ?_)
       refine goes_ Try.func34 (by kernel_rfl) rfl #[.agg #[.int .i64 t196, .bool t197, .int .i64 t198, .int .u64 t199, .slice Ao14 t200.length co14, .int .i64 t203], .agg #[.int .i64 t196, .bool t197, .int .i64 t198, .int .u64 t199, .slice Ao14 t200.length co14, .int .i64 t203]] (by rfl) rfl rfl (by (try simp only [List.map_toArray, List.map_cons, List.map_nil]); first | done | rfl | (simp only [List.length_drop, List.length_take]; rfl)) ?_
       with_reducible refine (impl_Refines.calls kj2 t196 t197 t198 t199 _ _ t200 t203 t196 t197 t198 t199 _ _ t200 t203 true _ ?side1 ?side2 ?side3 ?side4 A29.out).mono ?_
       (case side1 => repeat (first | exact (Kd.R_reads' HO202.out).2.2 | (with_reducible refine Kd.C_alloc ?_ _) | (with_reducible refine Kd.C_drewN ?_ _) | (with_reducible refine Kd.C_drew ?_)))
       (case side2 => exact (Kd.R_reads' HO202.out).2.1)
       (case side3 => repeat (first | exact (Kd.R_reads' HO202.out).2.2 | (with_reducible refine Kd.C_alloc ?_ _) | (with_reducible refine Kd.C_drewN ?_ _) | (with_reducible refine Kd.C_drew ?_)))
       (case side4 => exact (Kd.R_reads' HO202.out).2.1)
       rintro e w43 ⟨rfl, hb⟩
       refine ⟨_, rfl, ?_⟩
       have n0_ := Aside0.mk (Kd.R_below (by exact HO202.out) hb)
       have n1_ := Aside0.mk (Kd.R_below (by exact HO210.out) hb)
       have n2_ := Aside0.mk (Kd.R_below (by exact HO220.out) hb)
       have n3_ := Aside0.mk (Kd.R_below (by exact HO228.out) hb)
       have n4_ := Aside0.mk (blk_below (g := gb212) (o := .cells #[.int .i64 t196, .bool t197, .int .i64 t198, .int .u64 t199, .slice Ao14 t200.length co14, .int .i64 t203] 53 (0, 0)) (by exact BK212.out) hb)
       have n5_ := Aside0.mk (blk_below (g := gb213) (o := .cells #[.int .i64 t204, .bool t205, .int .i64 t206, .int .u64 t207, .slice Ao16 t208.length co16, .int .i64 t211] 53 (0, 0)) (by exact BK213.out) hb)
       have n6_ := Aside0.mk (blk_below (g := gb230) (o := .cells #[.int .i64 t214, .bool t215, .int .i64 t216, .int .u64 t217, .slice Ao24 t218.length co24, .int .i64 t221] 53 (0, 0)) (by exact BK230.out) hb)
       have n7_ := Aside0.mk (blk_below (g := gb231) (o := .cells #[.int .i64 t222, .bool t223, .int .i64 t224, .int .u64 t225, .slice Ao28 t226.length co28, .int .i64 t229] 53 (0, 0)) (by exact BK231.out) hb)
       have n8_ := Aside0.mk (below_step (by repeat (first | (with_reducible first | exact HB.out | apply below_alloc | apply pw_below_drewN | apply below_drew1 | refine below_set ?_ GE212.out | refine below_set ?_ GE213.out | refine below_set ?_ GE230.out | refine below_set ?_ GE231.out) | exact HB.out)) hb)
       clear HO202
       clear HO210
       clear HO220
       clear HO228
       clear BK212
       clear BK213
       clear BK230
       clear BK231
       clear HB
       have HO202 := n0_
       have HO210 := n1_
       have HO220 := n2_
       have HO228 := n3_
       have BK212 := n4_
       have BK213 := n5_
       have BK230 := n6_
       have BK231 := n7_
       have HB := n8_
       clear n0_ n1_ n2_ n3_ n4_ n5_ n6_ n7_ n8_
       (try clear hb)
       (try clear hb2)
       (try clear hk)
       (try clear hi)
       refine hK.out _ _ ⟨(blk_cell BK212.out 0).trans rfl, (blk_cell BK212.out 1).trans rfl, (blk_cell BK212.out 2).trans rfl, (blk_cell BK212.out 3).trans rfl, (blk_cell BK212.out 4).trans rfl, (blk_cell BK212.out 5).trans rfl, (blk_cell BK213.out 0).trans rfl, (blk_cell BK213.out 1).trans rfl, (blk_cell BK213.out 2).trans rfl, (blk_cell BK213.out 3).trans rfl, (blk_cell BK213.out 4).trans rfl, (blk_cell BK213.out 5).trans rfl⟩ (fun hHeld => ?_)
       clear hK K
       refine norm_ (a' := ?_) ?_ ?_
       rotate_left
       ·show Act.put _ (some 32) _ = _
        simp only [Act.put, List.setIfInBounds_toArray, List.set_cons_zero, List.set_cons_succ, i64_w, i32_w]
        rfl
       refine pure_ (i := 3) (N := some 33) (v := ?_) (a' := ?_) #[true, true, true, true, false, false, false, false, false, false, false, false, false, false, false, false, false, false, false] rfl rfl (any_of HT_.out (by kernel_rfl)) (fun _ _ _ h => h) (Or.inl ⟨by rfl, ?_⟩) ?_ ?_
       rotate_left
       ·intro w'
        go_simp
        with_reducible rfl
       rotate_left
       ·simp only [Act.put, List.setIfInBounds_toArray, List.set_cons_zero, List.set_cons_succ, i64_w, i32_w]
        rfl
       refine pure_ (i := 4) (N := some 34) (v := ?_) (a' := ?_) #[true, true, true, true, true, false, false, false, false, false, false, false, false, false, false, false, false, false, false] rfl rfl (any_of HT_.out (by kernel_rfl)) (fun _ _ _ h => h) (Or.inl ⟨by rfl, ?_⟩) ?_ ?_
       rotate_left
       ·intro w'
        go_simp
        with_reducible rfl
       rotate_left
       ·simp only [Act.put, List.setIfInBounds_toArray, List.set_cons_zero, List.set_cons_succ, i64_w, i32_w]
        rfl
       refine take_ (i := 5) (N := some 35) (v := ?_) (a' := ?_) #[true, true, true, true, true, true, false, false, false, false, false, false, false, false, false, false, false, false, false] rfl rfl (take_ofW HT_.out HW_.out (by kernel_rfl)) (fun _ _ _ h => h) (Or.inl ⟨by rfl, ?_⟩) hHeld ?_ ?_
       rotate_left
       ·rintro w' ⟨s0, s1, s2, s3, s4, s5, s6, s7, s8, s9, s10, s11⟩
        go_simp
        with_reducible rfl
       rotate_left
       ·simp only [Act.put, List.setIfInBounds_toArray, List.set_cons_zero, List.set_cons_succ, i64_w, i32_w]
        rfl
       refine take_ (i := 6) (N := some 36) (v := ?_) (a' := ?_) #[true, true, true, true, true, true, true, false, false, false, false, false, false, false, false, false, false, false, false] rfl rfl (take_ofW HT_.out HW_.out (by kernel_rfl)) (fun _ _ _ h => h) (Or.inl ⟨by rfl, ?_⟩) hHeld ?_ ?_
       rotate_left
       ·rintro w' ⟨s0, s1, s2, s3, s4, s5, s6, s7, s8, s9, s10, s11⟩
        go_simp
        with_reducible rfl
       rotate_left
       ·simp only [Act.put, List.setIfInBounds_toArray, List.set_cons_zero, List.set_cons_succ, i64_w, i32_w]
        rfl
       refine one_ (i := 7) (N := some 37) #[true, true, true, true, true, true, true, true, false, false, false, false, false, false, false, false, false, false, false] rfl rfl (one_of HT_.out (by kernel_rfl)) (by decide) (fun K hK => ?_)
       refine goes_ Try.func34 (by kernel_rfl) rfl #[.agg #[.int .i64 t204, .bool t205, .int .i64 t206, .int .u64 t207, .slice Ao16 t208.length co16, .int .i64 t211], .agg #[.int .i64 t204, .bool t205, .int .i64 t206, .int .u64 t207, .slice Ao16 t208.length co16, .int .i64 t211]] (by rfl) rfl rfl (by (try simp only [List.map_toArray, List.map_cons, List.map_nil]); first | done | rfl | (simp only [List.length_drop, List.length_take]; rfl)) ?_
       with_reducible refine (impl_Refines.calls kj2 t204 t205 t206 t207 _ _ t208 t211 t204 t205 t206 t207 _ _ t208 t211 false _ ?side1 ?side2 ?side3 ?side4 A31.out).mono ?_
       (case side1 => repeat (first | exact (Kd.R_reads' HO210.out).2.2 | (with_reducible refine Kd.C_alloc ?_ _) | (with_reducible refine Kd.C_drewN ?_ _) | (with_reducible refine Kd.C_drew ?_)))
       (case side2 => exact (Kd.R_reads' HO210.out).2.1)
       (case side3 => repeat (first | exact (Kd.R_reads' HO210.out).2.2 | (with_reducible refine Kd.C_alloc ?_ _) | (with_reducible refine Kd.C_drewN ?_ _) | (with_reducible refine Kd.C_drew ?_)))
       (case side4 => exact (Kd.R_reads' HO210.out).2.1)
       rintro e w44 ⟨rfl, hb⟩
       refine ⟨_, rfl, ?_⟩
       have n0_ := Aside0.mk (Kd.R_below (by exact HO202.out) hb)
       have n1_ := Aside0.mk (Kd.R_below (by exact HO210.out) hb)
       have n2_ := Aside0.mk (Kd.R_below (by exact HO220.out) hb)
       have n3_ := Aside0.mk (Kd.R_below (by exact HO228.out) hb)
       have n4_ := Aside0.mk (blk_below (g := gb212) (o := .cells #[.int .i64 t196, .bool t197, .int .i64 t198, .int .u64 t199, .slice Ao14 t200.length co14, .int .i64 t203] 53 (0, 0)) (by exact BK212.out) hb)
       have n5_ := Aside0.mk (blk_below (g := gb213) (o := .cells #[.int .i64 t204, .bool t205, .int .i64 t206, .int .u64 t207, .slice Ao16 t208.length co16, .int .i64 t211] 53 (0, 0)) (by exact BK213.out) hb)
       have n6_ := Aside0.mk (blk_below (g := gb230) (o := .cells #[.int .i64 t214, .bool t215, .int .i64 t216, .int .u64 t217, .slice Ao24 t218.length co24, .int .i64 t221] 53 (0, 0)) (by exact BK230.out) hb)
       have n7_ := Aside0.mk (blk_below (g := gb231) (o := .cells #[.int .i64 t222, .bool t223, .int .i64 t224, .int .u64 t225, .slice Ao28 t226.length co28, .int .i64 t229] 53 (0, 0)) (by exact BK231.out) hb)
       have n8_ := Aside0.mk (below_step (by repeat (first | (with_reducible first | exact HB.out | apply below_alloc | apply pw_below_drewN | apply below_drew1 | refine below_set ?_ GE212.out | refine below_set ?_ GE213.out | refine below_set ?_ GE230.out | refine below_set ?_ GE231.out) | exact HB.out)) hb)
       clear HO202
       clear HO210
       clear HO220
       clear HO228
       clear BK212
       clear BK213
       clear BK230
       clear BK231
       clear HB
       have HO202 := n0_
       have HO210 := n1_
       have HO220 := n2_
       have HO228 := n3_
       have BK212 := n4_
       have BK213 := n5_
       have BK230 := n6_
       have BK231 := n7_
       have HB := n8_
       clear n0_ n1_ n2_ n3_ n4_ n5_ n6_ n7_ n8_
       (try clear hb)
       (try clear hb2)
       (try clear hk)
       (try clear hi)
       refine hK.out _ _ ⟨(blk_cell BK212.out 0).trans rfl, (blk_cell BK212.out 1).trans rfl, (blk_cell BK212.out 2).trans rfl, (blk_cell BK212.out 3).trans rfl, (blk_cell BK212.out 4).trans rfl, (blk_cell BK212.out 5).trans rfl, (blk_cell BK213.out 0).trans rfl, (blk_cell BK213.out 1).trans rfl, (blk_cell BK213.out 2).trans rfl, (blk_cell BK213.out 3).trans rfl, (blk_cell BK213.out 4).trans rfl, (blk_cell BK213.out 5).trans rfl⟩ (fun hHeld => ?_)
       clear hK K
       refine norm_ (a' := ?_) ?_ ?_
       rotate_left
       ·show Act.put _ (some 37) _ = _
        simp only [Act.put, List.setIfInBounds_toArray, List.set_cons_zero, List.set_cons_succ, i64_w, i32_w]
        rfl
       refine pure_ (i := 8) (N := some 38) (v := ?_) (a' := ?_) #[true, true, true, true, true, true, true, true, true, false, false, false, false, false, false, false, false, false, false] rfl rfl (any_of HT_.out (by kernel_rfl)) (fun _ _ _ h => h) (Or.inl ⟨by rfl, ?_⟩) ?_ ?_
       rotate_left
       ·intro w'
        go_simp
        with_reducible rfl
       rotate_left
       ·simp only [Act.put, List.setIfInBounds_toArray, List.set_cons_zero, List.set_cons_succ, i64_w, i32_w]
        rfl
       refine pure_ (i := 9) (N := some 39) (v := ?_) (a' := ?_) #[true, true, true, true, true, true, true, true, true, true, false, false, false, false, false, false, false, false, false] rfl rfl (any_of HT_.out (by kernel_rfl)) (fun _ _ _ h => h) (Or.inl ⟨by rfl, ?_⟩) ?_ ?_
       rotate_left
       ·intro w'
        go_simp
        with_reducible rfl
       rotate_left
       ·simp only [Act.put, List.setIfInBounds_toArray, List.set_cons_zero, List.set_cons_succ, i64_w, i32_w]
        rfl
       refine pure_ (i := 10) (N := some 40) (v := ?_) (a' := ?_) #[true, true, true, true, true, true, true, true, true, true, true, false, false, false, false, false, false, false, false] rfl rfl (any_of HT_.out (by kernel_rfl)) (fun _ _ _ h => h) (Or.inl ⟨by rfl, ?_⟩) ?_ ?_
       rotate_left
       ·intro w'
        go_simp
        with_reducible rfl
       rotate_left
       ·simp only [Act.put, List.setIfInBounds_toArray, List.set_cons_zero, List.set_cons_succ, i64_w, i32_w]
        rfl
       refine pure_ (i := 11) (N := some 41) (v := undef) (a' := ?_) #[true, true, true, true, true, true, true, true, true, true, true, true, false, false, false, false, false, false, false] rfl rfl (any_of HT_.out (by kernel_rfl)) (fun _ _ _ h => h) (Or.inr ⟨by rfl, rfl⟩) ?_ ?_
       rotate_left
       ·simp only [Act.put, List.setIfInBounds_toArray, List.set_cons_zero, List.set_cons_succ, i64_w, i32_w]
        rfl
       refine pure_ (i := 12) (N := some 42) (v := undef) (a' := ?_) #[true, true, true, true, true, true, true, true, true, true, true, true, true, false, false, false, false, false, false] rfl rfl (any_of HT_.out (by kernel_rfl)) (fun _ _ _ h => h) (Or.inr ⟨by rfl, rfl⟩) ?_ ?_
       rotate_left
       ·simp only [Act.put, List.setIfInBounds_toArray, List.set_cons_zero, List.set_cons_succ, i64_w, i32_w]
        rfl
       refine pure_ (i := 13) (N := some 43) (v := undef) (a' := ?_) #[true, true, true, true, true, true, true, true, true, true, true, true, true, true, false, false, false, false, false] rfl rfl (any_of HT_.out (by kernel_rfl)) (fun _ _ _ h => h) (Or.inr ⟨by rfl, rfl⟩) ?_ ?_
       rotate_left
       ·simp only [Act.put, List.setIfInBounds_toArray, List.set_cons_zero, List.set_cons_succ, i64_w, i32_w]
        rfl
       refine pure_ (i := 14) (N := some 44) (v := undef) (a' := ?_) #[true, true, true, true, true, true, true, true, true, true, true, true, true, true, true, false, false, false, false] rfl rfl (any_of HT_.out (by kernel_rfl)) (fun _ _ _ h => h) (Or.inr ⟨by rfl, rfl⟩) ?_ ?_
       rotate_left
       ·simp only [Act.put, List.setIfInBounds_toArray, List.set_cons_zero, List.set_cons_succ, i64_w, i32_w]
        rfl
       refine pure_ (i := 15) (N := some 45) (v := undef) (a' := ?_) #[true, true, true, true, true, true, true, true, true, true, true, true, true, true, true, true, false, false, false] rfl rfl (any_of HT_.out (by kernel_rfl)) (fun _ _ _ h => h) (Or.inr ⟨by rfl, rfl⟩) ?_ ?_
       rotate_left
       ·simp only [Act.put, List.setIfInBounds_toArray, List.set_cons_zero, List.set_cons_succ, i64_w, i32_w]
        rfl
       refine pure_ (i := 16) (N := some 46) (v := undef) (a' := ?_) #[true, true, true, true, true, true, true, true, true, true, true, true, true, true, true, true, true, false, false] rfl rfl (any_of HT_.out (by kernel_rfl)) (fun _ _ _ h => h) (Or.inr ⟨by rfl, rfl⟩) ?_ ?_
       rotate_left
       ·simp only [Act.put, List.setIfInBounds_toArray, List.set_cons_zero, List.set_cons_succ, i64_w, i32_w]
        rfl
       refine pure_ (i := 17) (N := some 47) (v := undef) (a' := ?_) #[true, true, true, true, true, true, true, true, true, true, true, true, true, true, true, true, true, true, false] rfl rfl (any_of HT_.out (by kernel_rfl)) (fun _ _ _ h => h) (Or.inr ⟨by rfl, rfl⟩) ?_ ?_
       rotate_left
       ·simp only [Act.put, List.setIfInBounds_toArray, List.set_cons_zero, List.set_cons_succ, i64_w, i32_w]
        rfl
       refine pure_ (i := 18) (N := some 48) (v := ?_) (a' := ?_) #[true, true, true, true, true, true, true, true, true, true, true, true, true, true, true, true, true, true, true] rfl rfl (any_of HT_.out (by kernel_rfl)) (fun _ _ _ h => h) (Or.inl ⟨by rfl, ?_⟩) ?_ ?_
       rotate_left
       ·intro w'
        go_simp
        with_reducible rfl
       rotate_left
       ·simp only [Act.put, List.setIfInBounds_toArray, List.set_cons_zero, List.set_cons_succ, i64_w, i32_w]
        rfl
       refine done_ (done_of HT_.out (by kernel_rfl)) ?_
       try go_wp2
       go_meet
       case rel => exact ⟨_, (true), (by first | rfl | (simp; done) | (simp [*]; done)), H', ⟨by have := HJ2.out; first | omega | exact Nat.le_refl _⟩, ⟨by exact HO202.out⟩, ⟨by exact HO210.out⟩, ⟨by exact HO220.out⟩, ⟨by exact HO228.out⟩, ⟨by exact BK212.out⟩, ⟨by exact BK213.out⟩, ⟨by exact BK230.out⟩, ⟨by exact BK231.out⟩, ⟨by repeat (first | (with_reducible first | exact HB.out | apply below_alloc | apply pw_below_drewN | apply below_drew1 | refine below_set ?_ GE212.out | refine below_set ?_ GE213.out | refine below_set ?_ GE230.out | refine below_set ?_ GE231.out) | exact HB.out)⟩⟩
     ·replace c30 := Bool.eq_false_iff.mpr c30
      subst c30
      have H1 : (laws_FnRefines.j1 kj2 true t196 t197 t198 t199 t200 t203 t204 t205 t206 t207 t208 t211 t222 t223 t224 t225 t226 t229) = some r := by rw [if_neg (show ¬ (false = true) by decide)] at H; exact H
      clear H
      have H := H1
      clear H1
      have H' := Aside0.mk H
      clear H
      try go_wp2
      have n0_ : Aside0 (Kd.R (Kd.int .u64) 38 ((((((((((((w19.setCell ⟨gb230, 0, none⟩ (.int .i64 t214)).setCell ⟨gb230, 1, none⟩ (.bool t215)).setCell ⟨gb230, 2, none⟩ (.int .i64 t216)).setCell ⟨gb230, 3, none⟩ (.int .u64 t217)).setCell ⟨gb230, 4, none⟩ (.slice Ao24 t218.length co24)).setCell ⟨gb230, 5, none⟩ (.int .i64 t221)).setCell ⟨gb231, 0, none⟩ (.int .i64 t222)).setCell ⟨gb231, 1, none⟩ (.bool t223)).setCell ⟨gb231, 2, none⟩ (.int .i64 t224)).setCell ⟨gb231, 3, none⟩ (.int .u64 t225)).setCell ⟨gb231, 4, none⟩ (.slice Ao28 t226.length co28)).setCell ⟨gb231, 5, none⟩ (.int .i64 t229)) w.heap.size (fun k_ => some k_ ≠ (.slice Ao16 t208.length co16 : Value).ownBlock ∧ some k_ ≠ (.slice Ao24 t218.length co24 : Value).ownBlock ∧ some k_ ≠ (.slice Ao28 t226.length co28 : Value).ownBlock) (.slice Ao14 t200.length co14) t200) := ⟨by exact Kd.R_mono (Kd.R_far (p := ⟨gb231, 5, none⟩) (Kd.R_far (p := ⟨gb231, 4, none⟩) (Kd.R_far (p := ⟨gb231, 3, none⟩) (Kd.R_far (p := ⟨gb231, 2, none⟩) (Kd.R_far (p := ⟨gb231, 1, none⟩) (Kd.R_far (p := ⟨gb231, 0, none⟩) (Kd.R_far (p := ⟨gb230, 5, none⟩) (Kd.R_far (p := ⟨gb230, 4, none⟩) (Kd.R_far (p := ⟨gb230, 3, none⟩) (Kd.R_far (p := ⟨gb230, 2, none⟩) (Kd.R_far (p := ⟨gb230, 1, none⟩) (Kd.R_far (p := ⟨gb230, 0, none⟩) (Kd.R_types (Kd.R_types HO202.out BK230.out (by decide)) BK231.out (by decide)) (fun _ hk => hk.1.2) (.int .i64 t214)) (fun _ hk => hk.1.2) (.bool t215)) (fun _ hk => hk.1.2) (.int .i64 t216)) (fun _ hk => hk.1.2) (.int .u64 t217)) (fun _ hk => hk.1.2) (.slice Ao24 t218.length co24)) (fun _ hk => hk.1.2) (.int .i64 t221)) (fun _ hk => hk.2) (.int .i64 t222)) (fun _ hk => hk.2) (.bool t223)) (fun _ hk => hk.2) (.int .i64 t224)) (fun _ hk => hk.2) (.int .u64 t225)) (fun _ hk => hk.2) (.slice Ao28 t226.length co28)) (fun _ hk => hk.2) (.int .i64 t229)) (fun _ hk => ⟨hk.1.1.1.1, ⟨hk.1.1.1.2, hk.1.1.2⟩⟩)⟩
      have n1_ : Aside0 (Kd.R (Kd.int .u64) 38 ((((((((((((w19.setCell ⟨gb230, 0, none⟩ (.int .i64 t214)).setCell ⟨gb230, 1, none⟩ (.bool t215)).setCell ⟨gb230, 2, none⟩ (.int .i64 t216)).setCell ⟨gb230, 3, none⟩ (.int .u64 t217)).setCell ⟨gb230, 4, none⟩ (.slice Ao24 t218.length co24)).setCell ⟨gb230, 5, none⟩ (.int .i64 t221)).setCell ⟨gb231, 0, none⟩ (.int .i64 t222)).setCell ⟨gb231, 1, none⟩ (.bool t223)).setCell ⟨gb231, 2, none⟩ (.int .i64 t224)).setCell ⟨gb231, 3, none⟩ (.int .u64 t225)).setCell ⟨gb231, 4, none⟩ (.slice Ao28 t226.length co28)).setCell ⟨gb231, 5, none⟩ (.int .i64 t229)) w.heap.size (fun k_ => some k_ ≠ (.slice Ao14 t200.length co14 : Value).ownBlock ∧ some k_ ≠ (.slice Ao24 t218.length co24 : Value).ownBlock ∧ some k_ ≠ (.slice Ao28 t226.length co28 : Value).ownBlock) (.slice Ao16 t208.length co16) t208) := ⟨by exact Kd.R_mono (Kd.R_far (p := ⟨gb231, 5, none⟩) (Kd.R_far (p := ⟨gb231, 4, none⟩) (Kd.R_far (p := ⟨gb231, 3, none⟩) (Kd.R_far (p := ⟨gb231, 2, none⟩) (Kd.R_far (p := ⟨gb231, 1, none⟩) (Kd.R_far (p := ⟨gb231, 0, none⟩) (Kd.R_far (p := ⟨gb230, 5, none⟩) (Kd.R_far (p := ⟨gb230, 4, none⟩) (Kd.R_far (p := ⟨gb230, 3, none⟩) (Kd.R_far (p := ⟨gb230, 2, none⟩) (Kd.R_far (p := ⟨gb230, 1, none⟩) (Kd.R_far (p := ⟨gb230, 0, none⟩) (Kd.R_types (Kd.R_types HO210.out BK230.out (by decide)) BK231.out (by decide)) (fun _ hk => hk.1.2) (.int .i64 t214)) (fun _ hk => hk.1.2) (.bool t215)) (fun _ hk => hk.1.2) (.int .i64 t216)) (fun _ hk => hk.1.2) (.int .u64 t217)) (fun _ hk => hk.1.2) (.slice Ao24 t218.length co24)) (fun _ hk => hk.1.2) (.int .i64 t221)) (fun _ hk => hk.2) (.int .i64 t222)) (fun _ hk => hk.2) (.bool t223)) (fun _ hk => hk.2) (.int .i64 t224)) (fun _ hk => hk.2) (.int .u64 t225)) (fun _ hk => hk.2) (.slice Ao28 t226.length co28)) (fun _ hk => hk.2) (.int .i64 t229)) (fun _ hk => ⟨hk.1.1.1.1, ⟨hk.1.1.1.2, hk.1.1.2⟩⟩)⟩
      have n2_ : Aside0 (Kd.R (Kd.int .u64) 38 ((((((((((((w19.setCell ⟨gb230, 0, none⟩ (.int .i64 t214)).setCell ⟨gb230, 1, none⟩ (.bool t215)).setCell ⟨gb230, 2, none⟩ (.int .i64 t216)).setCell ⟨gb230, 3, none⟩ (.int .u64 t217)).setCell ⟨gb230, 4, none⟩ (.slice Ao24 t218.length co24)).setCell ⟨gb230, 5, none⟩ (.int .i64 t221)).setCell ⟨gb231, 0, none⟩ (.int .i64 t222)).setCell ⟨gb231, 1, none⟩ (.bool t223)).setCell ⟨gb231, 2, none⟩ (.int .i64 t224)).setCell ⟨gb231, 3, none⟩ (.int .u64 t225)).setCell ⟨gb231, 4, none⟩ (.slice Ao28 t226.length co28)).setCell ⟨gb231, 5, none⟩ (.int .i64 t229)) w.heap.size (fun k_ => some k_ ≠ (.slice Ao14 t200.length co14 : Value).ownBlock ∧ some k_ ≠ (.slice Ao16 t208.length co16 : Value).ownBlock ∧ some k_ ≠ (.slice Ao28 t226.length co28 : Value).ownBlock) (.slice Ao24 t218.length co24) t218) := ⟨by exact Kd.R_mono (Kd.R_far (p := ⟨gb231, 5, none⟩) (Kd.R_far (p := ⟨gb231, 4, none⟩) (Kd.R_far (p := ⟨gb231, 3, none⟩) (Kd.R_far (p := ⟨gb231, 2, none⟩) (Kd.R_far (p := ⟨gb231, 1, none⟩) (Kd.R_far (p := ⟨gb231, 0, none⟩) (Kd.R_far (p := ⟨gb230, 5, none⟩) (Kd.R_far (p := ⟨gb230, 4, none⟩) (Kd.R_far (p := ⟨gb230, 3, none⟩) (Kd.R_far (p := ⟨gb230, 2, none⟩) (Kd.R_far (p := ⟨gb230, 1, none⟩) (Kd.R_far (p := ⟨gb230, 0, none⟩) (Kd.R_types (Kd.R_types HO220.out BK230.out (by decide)) BK231.out (by decide)) (fun _ hk => hk.1.2) (.int .i64 t214)) (fun _ hk => hk.1.2) (.bool t215)) (fun _ hk => hk.1.2) (.int .i64 t216)) (fun _ hk => hk.1.2) (.int .u64 t217)) (fun _ hk => hk.1.2) (.slice Ao24 t218.length co24)) (fun _ hk => hk.1.2) (.int .i64 t221)) (fun _ hk => hk.2) (.int .i64 t222)) (fun _ hk => hk.2) (.bool t223)) (fun _ hk => hk.2) (.int .i64 t224)) (fun _ hk => hk.2) (.int .u64 t225)) (fun _ hk => hk.2) (.slice Ao28 t226.length co28)) (fun _ hk => hk.2) (.int .i64 t229)) (fun _ hk => ⟨hk.1.1.1.2, ⟨hk.1.1.2, hk.1.1.1.1⟩⟩)⟩
      have n3_ : Aside0 (Kd.R (Kd.int .u64) 38 ((((((((((((w19.setCell ⟨gb230, 0, none⟩ (.int .i64 t214)).setCell ⟨gb230, 1, none⟩ (.bool t215)).setCell ⟨gb230, 2, none⟩ (.int .i64 t216)).setCell ⟨gb230, 3, none⟩ (.int .u64 t217)).setCell ⟨gb230, 4, none⟩ (.slice Ao24 t218.length co24)).setCell ⟨gb230, 5, none⟩ (.int .i64 t221)).setCell ⟨gb231, 0, none⟩ (.int .i64 t222)).setCell ⟨gb231, 1, none⟩ (.bool t223)).setCell ⟨gb231, 2, none⟩ (.int .i64 t224)).setCell ⟨gb231, 3, none⟩ (.int .u64 t225)).setCell ⟨gb231, 4, none⟩ (.slice Ao28 t226.length co28)).setCell ⟨gb231, 5, none⟩ (.int .i64 t229)) w.heap.size (fun k_ => some k_ ≠ (.slice Ao14 t200.length co14 : Value).ownBlock ∧ some k_ ≠ (.slice Ao16 t208.length co16 : Value).ownBlock ∧ some k_ ≠ (.slice Ao24 t218.length co24 : Value).ownBlock) (.slice Ao28 t226.length co28) t226) := ⟨by exact Kd.R_mono (Kd.R_far (p := ⟨gb231, 5, none⟩) (Kd.R_far (p := ⟨gb231, 4, none⟩) (Kd.R_far (p := ⟨gb231, 3, none⟩) (Kd.R_far (p := ⟨gb231, 2, none⟩) (Kd.R_far (p := ⟨gb231, 1, none⟩) (Kd.R_far (p := ⟨gb231, 0, none⟩) (Kd.R_far (p := ⟨gb230, 5, none⟩) (Kd.R_far (p := ⟨gb230, 4, none⟩) (Kd.R_far (p := ⟨gb230, 3, none⟩) (Kd.R_far (p := ⟨gb230, 2, none⟩) (Kd.R_far (p := ⟨gb230, 1, none⟩) (Kd.R_far (p := ⟨gb230, 0, none⟩) (Kd.R_types (Kd.R_types HO228.out BK230.out (by decide)) BK231.out (by decide)) (fun _ hk => hk.1.2) (.int .i64 t214)) (fun _ hk => hk.1.2) (.bool t215)) (fun _ hk => hk.1.2) (.int .i64 t216)) (fun _ hk => hk.1.2) (.int .u64 t217)) (fun _ hk => hk.1.2) (.slice Ao24 t218.length co24)) (fun _ hk => hk.1.2) (.int .i64 t221)) (fun _ hk => hk.2) (.int .i64 t222)) (fun _ hk => hk.2) (.bool t223)) (fun _ hk => hk.2) (.int .i64 t224)) (fun _ hk => hk.2) (.int .u64 t225)) (fun _ hk => hk.2) (.slice Ao28 t226.length co28)) (fun _ hk => hk.2) (.int .i64 t229)) (fun _ hk => ⟨hk.1.1.1.2, ⟨hk.1.1.2, hk.1.1.1.1⟩⟩)⟩
      have n4_ : Aside0 (((((((((((((w19.setCell ⟨gb230, 0, none⟩ (.int .i64 t214)).setCell ⟨gb230, 1, none⟩ (.bool t215)).setCell ⟨gb230, 2, none⟩ (.int .i64 t216)).setCell ⟨gb230, 3, none⟩ (.int .u64 t217)).setCell ⟨gb230, 4, none⟩ (.slice Ao24 t218.length co24)).setCell ⟨gb230, 5, none⟩ (.int .i64 t221)).setCell ⟨gb231, 0, none⟩ (.int .i64 t222)).setCell ⟨gb231, 1, none⟩ (.bool t223)).setCell ⟨gb231, 2, none⟩ (.int .i64 t224)).setCell ⟨gb231, 3, none⟩ (.int .u64 t225)).setCell ⟨gb231, 4, none⟩ (.slice Ao28 t226.length co28)).setCell ⟨gb231, 5, none⟩ (.int .i64 t229)).heap[gb212]? = some (.cells #[.int .i64 t196, .bool t197, .int .i64 t198, .int .u64 t199, .slice Ao14 t200.length co14, .int .i64 t203] 53 (0, 0))) := ⟨by refine blk_far ?_ NB212_231.out _; refine blk_far ?_ NB212_231.out _; refine blk_far ?_ NB212_231.out _; refine blk_far ?_ NB212_231.out _; refine blk_far ?_ NB212_231.out _; refine blk_far ?_ NB212_231.out _; refine blk_far ?_ NB212_230.out _; refine blk_far ?_ NB212_230.out _; refine blk_far ?_ NB212_230.out _; refine blk_far ?_ NB212_230.out _; refine blk_far ?_ NB212_230.out _; refine blk_far ?_ NB212_230.out _; exact BK212.out⟩
      have n5_ : Aside0 (((((((((((((w19.setCell ⟨gb230, 0, none⟩ (.int .i64 t214)).setCell ⟨gb230, 1, none⟩ (.bool t215)).setCell ⟨gb230, 2, none⟩ (.int .i64 t216)).setCell ⟨gb230, 3, none⟩ (.int .u64 t217)).setCell ⟨gb230, 4, none⟩ (.slice Ao24 t218.length co24)).setCell ⟨gb230, 5, none⟩ (.int .i64 t221)).setCell ⟨gb231, 0, none⟩ (.int .i64 t222)).setCell ⟨gb231, 1, none⟩ (.bool t223)).setCell ⟨gb231, 2, none⟩ (.int .i64 t224)).setCell ⟨gb231, 3, none⟩ (.int .u64 t225)).setCell ⟨gb231, 4, none⟩ (.slice Ao28 t226.length co28)).setCell ⟨gb231, 5, none⟩ (.int .i64 t229)).heap[gb213]? = some (.cells #[.int .i64 t204, .bool t205, .int .i64 t206, .int .u64 t207, .slice Ao16 t208.length co16, .int .i64 t211] 53 (0, 0))) := ⟨by refine blk_far ?_ NB213_231.out _; refine blk_far ?_ NB213_231.out _; refine blk_far ?_ NB213_231.out _; refine blk_far ?_ NB213_231.out _; refine blk_far ?_ NB213_231.out _; refine blk_far ?_ NB213_231.out _; refine blk_far ?_ NB213_230.out _; refine blk_far ?_ NB213_230.out _; refine blk_far ?_ NB213_230.out _; refine blk_far ?_ NB213_230.out _; refine blk_far ?_ NB213_230.out _; refine blk_far ?_ NB213_230.out _; exact BK213.out⟩
      have n6_ : Aside0 (((((((((((((w19.setCell ⟨gb230, 0, none⟩ (.int .i64 t214)).setCell ⟨gb230, 1, none⟩ (.bool t215)).setCell ⟨gb230, 2, none⟩ (.int .i64 t216)).setCell ⟨gb230, 3, none⟩ (.int .u64 t217)).setCell ⟨gb230, 4, none⟩ (.slice Ao24 t218.length co24)).setCell ⟨gb230, 5, none⟩ (.int .i64 t221)).setCell ⟨gb231, 0, none⟩ (.int .i64 t222)).setCell ⟨gb231, 1, none⟩ (.bool t223)).setCell ⟨gb231, 2, none⟩ (.int .i64 t224)).setCell ⟨gb231, 3, none⟩ (.int .u64 t225)).setCell ⟨gb231, 4, none⟩ (.slice Ao28 t226.length co28)).setCell ⟨gb231, 5, none⟩ (.int .i64 t229)).heap[gb230]? = some (.cells #[.int .i64 t214, .bool t215, .int .i64 t216, .int .u64 t217, .slice Ao24 t218.length co24, .int .i64 t221] 53 (0, 0))) := ⟨by refine blk_far ?_ NB230_231.out _; refine blk_far ?_ NB230_231.out _; refine blk_far ?_ NB230_231.out _; refine blk_far ?_ NB230_231.out _; refine blk_far ?_ NB230_231.out _; refine blk_far ?_ NB230_231.out _; refine blk_put (cs := #[.int .i64 t214, .bool t215, .int .i64 t216, .int .u64 t217, .slice Ao24 t218.length co24, .int .i64 0]) ?_ 5 _ rfl; refine blk_put (cs := #[.int .i64 t214, .bool t215, .int .i64 t216, .int .u64 t217, .slice none 0 0, .int .i64 0]) ?_ 4 _ rfl; refine blk_put (cs := #[.int .i64 t214, .bool t215, .int .i64 t216, .int .u64 0, .slice none 0 0, .int .i64 0]) ?_ 3 _ rfl; refine blk_put (cs := #[.int .i64 t214, .bool t215, .int .i64 0, .int .u64 0, .slice none 0 0, .int .i64 0]) ?_ 2 _ rfl; refine blk_put (cs := #[.int .i64 t214, .bool false, .int .i64 0, .int .u64 0, .slice none 0 0, .int .i64 0]) ?_ 1 _ rfl; refine blk_put (cs := #[.int .i64 0, .bool false, .int .i64 0, .int .u64 0, .slice none 0 0, .int .i64 0]) ?_ 0 _ rfl; exact BK230.out⟩
      have n7_ : Aside0 (((((((((((((w19.setCell ⟨gb230, 0, none⟩ (.int .i64 t214)).setCell ⟨gb230, 1, none⟩ (.bool t215)).setCell ⟨gb230, 2, none⟩ (.int .i64 t216)).setCell ⟨gb230, 3, none⟩ (.int .u64 t217)).setCell ⟨gb230, 4, none⟩ (.slice Ao24 t218.length co24)).setCell ⟨gb230, 5, none⟩ (.int .i64 t221)).setCell ⟨gb231, 0, none⟩ (.int .i64 t222)).setCell ⟨gb231, 1, none⟩ (.bool t223)).setCell ⟨gb231, 2, none⟩ (.int .i64 t224)).setCell ⟨gb231, 3, none⟩ (.int .u64 t225)).setCell ⟨gb231, 4, none⟩ (.slice Ao28 t226.length co28)).setCell ⟨gb231, 5, none⟩ (.int .i64 t229)).heap[gb231]? = some (.cells #[.int .i64 t222, .bool t223, .int .i64 t224, .int .u64 t225, .slice Ao28 t226.length co28, .int .i64 t229] 53 (0, 0))) := ⟨by refine blk_put (cs := #[.int .i64 t222, .bool t223, .int .i64 t224, .int .u64 t225, .slice Ao28 t226.length co28, .int .i64 0]) ?_ 5 _ rfl; refine blk_put (cs := #[.int .i64 t222, .bool t223, .int .i64 t224, .int .u64 t225, .slice none 0 0, .int .i64 0]) ?_ 4 _ rfl; refine blk_put (cs := #[.int .i64 t222, .bool t223, .int .i64 t224, .int .u64 0, .slice none 0 0, .int .i64 0]) ?_ 3 _ rfl; refine blk_put (cs := #[.int .i64 t222, .bool t223, .int .i64 0, .int .u64 0, .slice none 0 0, .int .i64 0]) ?_ 2 _ rfl; refine blk_put (cs := #[.int .i64 t222, .bool false, .int .i64 0, .int .u64 0, .slice none 0 0, .int .i64 0]) ?_ 1 _ rfl; refine blk_put (cs := #[.int .i64 0, .bool false, .int .i64 0, .int .u64 0, .slice none 0 0, .int .i64 0]) ?_ 0 _ rfl; refine blk_far ?_ NB231_230.out _; refine blk_far ?_ NB231_230.out _; refine blk_far ?_ NB231_230.out _; refine blk_far ?_ NB231_230.out _; refine blk_far ?_ NB231_230.out _; refine blk_far ?_ NB231_230.out _; exact BK231.out⟩
      have n8_ : Aside0 (Below w.heap.size w ((((((((((((w19.setCell ⟨gb230, 0, none⟩ (.int .i64 t214)).setCell ⟨gb230, 1, none⟩ (.bool t215)).setCell ⟨gb230, 2, none⟩ (.int .i64 t216)).setCell ⟨gb230, 3, none⟩ (.int .u64 t217)).setCell ⟨gb230, 4, none⟩ (.slice Ao24 t218.length co24)).setCell ⟨gb230, 5, none⟩ (.int .i64 t221)).setCell ⟨gb231, 0, none⟩ (.int .i64 t222)).setCell ⟨gb231, 1, none⟩ (.bool t223)).setCell ⟨gb231, 2, none⟩ (.int .i64 t224)).setCell ⟨gb231, 3, none⟩ (.int .u64 t225)).setCell ⟨gb231, 4, none⟩ (.slice Ao28 t226.length co28)).setCell ⟨gb231, 5, none⟩ (.int .i64 t229))) := ⟨by repeat (first | (with_reducible first | exact HB.out | apply below_alloc | apply pw_below_drewN | apply below_drew1 | refine below_set ?_ GE212.out | refine below_set ?_ GE213.out | refine below_set ?_ GE230.out | refine below_set ?_ GE231.out) | exact HB.out)⟩
      (try clear HO202)
      (try clear HO210)
      (try clear HO220)
      (try clear HO228)
      (try clear BK212)
      (try clear BK213)
      (try clear BK230)
      (try clear BK231)
      (try clear HB)
      generalize ((((((((((((w19.setCell ⟨gb230, 0, none⟩ (.int .i64 t214)).setCell ⟨gb230, 1, none⟩ (.bool t215)).setCell ⟨gb230, 2, none⟩ (.int .i64 t216)).setCell ⟨gb230, 3, none⟩ (.int .u64 t217)).setCell ⟨gb230, 4, none⟩ (.slice Ao24 t218.length co24)).setCell ⟨gb230, 5, none⟩ (.int .i64 t221)).setCell ⟨gb231, 0, none⟩ (.int .i64 t222)).setCell ⟨gb231, 1, none⟩ (.bool t223)).setCell ⟨gb231, 2, none⟩ (.int .i64 t224)).setCell ⟨gb231, 3, none⟩ (.int .u64 t225)).setCell ⟨gb231, 4, none⟩ (.slice Ao28 t226.length co28)).setCell ⟨gb231, 5, none⟩ (.int .i64 t229)) = w45 at n0_ n1_ n2_ n3_ n4_ n5_ n6_ n7_ n8_ ⊢
      have HO202 := n0_
      have HO210 := n1_
      have HO220 := n2_
      have HO228 := n3_
      have BK212 := n4_
      have BK213 := n5_
      have BK230 := n6_
      have BK231 := n7_
      have HB := n8_
      clear n0_ n1_ n2_ n3_ n4_ n5_ n6_ n7_ n8_
      have n0_ := Aside0.mk (Kd.R_drew HO202.out)
      have n1_ := Aside0.mk (Kd.R_drew HO210.out)
      have n2_ := Aside0.mk (Kd.R_drew HO220.out)
      have n3_ := Aside0.mk (Kd.R_drew HO228.out)
      have n4_ := Aside0.mk (blk_drew BK212.out)
      have n5_ := Aside0.mk (blk_drew BK213.out)
      have n6_ := Aside0.mk (blk_drew BK230.out)
      have n7_ := Aside0.mk (blk_drew BK231.out)
      have n8_ := Aside0.mk (below_drew1 HB.out)
      clear HO202
      clear HO210
      clear HO220
      clear HO228
      clear BK212
      clear BK213
      clear BK230
      clear BK231
      clear HB
      have HO202 := n0_
      have HO210 := n1_
      have HO220 := n2_
      have HO228 := n3_
      have BK212 := n4_
      have BK213 := n5_
      have BK230 := n6_
      have BK231 := n7_
      have HB := n8_
      clear n0_ n1_ n2_ n3_ n4_ n5_ n6_ n7_ n8_
      refine start_ (n := 19) (S := fun w' => w'.cell? ⟨gb212, 0, none⟩ = some (.int .i64 t196) ∧ w'.cell? ⟨gb212, 1, none⟩ = some (.bool t197) ∧ w'.cell? ⟨gb212, 2, none⟩ = some (.int .i64 t198) ∧ w'.cell? ⟨gb212, 3, none⟩ = some (.int .u64 t199) ∧ w'.cell? ⟨gb212, 4, none⟩ = some (.slice Ao14 t200.length co14) ∧ w'.cell? ⟨gb212, 5, none⟩ = some (.int .i64 t203)) (ds := []) #[false, false, false, false, false, false, false, false, false, false, false, false, false, false, false, false, false, false, false] (by kernel_rfl) rfl rfl ⟨(blk_cell BK212.out 0).trans rfl, (blk_cell BK212.out 1).trans rfl, (blk_cell BK212.out 2).trans rfl, (blk_cell BK212.out 3).trans rfl, (blk_cell BK212.out 4).trans rfl, (blk_cell BK212.out 5).trans rfl⟩ (fun hHeld => ?_); refine with_tabW laws_FnRefines.tab5 laws_FnRefines.bits5 (fun HT_ HW_ => ?_)
      generalize w45.drew = w46 at HO202 HO210 HO220 HO228 BK212 BK213 BK230 BK231 HB hHeld ⊢
      refine take_ (i := 0) (N := some 30) (v := ?_) (a' := ?_) #[true, false, false, false, false, false, false, false, false, false, false, false, false, false, false, false, false, false, false] rfl rfl (take_ofW HT_.out HW_.out (by kernel_rfl)) (fun _ _ _ h => h) (Or.inl ⟨by rfl, ?_⟩) hHeld ?_ ?_
      rotate_left
      ·rintro w' ⟨s0, s1, s2, s3, s4, s5⟩
       go_simp
       with_reducible rfl
      rotate_left
      ·simp only [Act.put, List.setIfInBounds_toArray, List.set_cons_zero, List.set_cons_succ, i64_w, i32_w]
       rfl
      refine take_ (i := 1) (N := some 31) (v := ?_) (a' := ?_) #[true, true, false, false, false, false, false, false, false, false, false, false, false, false, false, false, false, false, false] rfl rfl (take_ofW HT_.out HW_.out (by kernel_rfl)) (fun _ _ _ h => h) (Or.inl ⟨by rfl, ?_⟩) hHeld ?_ ?_
      rotate_left
      ·rintro w' ⟨s0, s1, s2, s3, s4, s5⟩
       go_simp
       with_reducible rfl
      rotate_left
      ·simp only [Act.put, List.setIfInBounds_toArray, List.set_cons_zero, List.set_cons_succ, i64_w, i32_w]
       rfl
      refine one_ (i := 2) (N := some 32) #[true, true, true, false, false, false, false, false, false, false, false, false, false, false, false, false, false, false, false] rfl rfl (one_of HT_.out (by kernel_rfl)) (by decide) (fun K hK => ?_)
      refine goes_ Try.func34 (by kernel_rfl) rfl #[.agg #[.int .i64 t196, .bool t197, .int .i64 t198, .int .u64 t199, .slice Ao14 t200.length co14, .int .i64 t203], .agg #[.int .i64 t196, .bool t197, .int .i64 t198, .int .u64 t199, .slice Ao14 t200.length co14, .int .i64 t203]] (by rfl) rfl rfl (by (try simp only [List.map_toArray, List.map_cons, List.map_nil]); first | done | rfl | (simp only [List.length_drop, List.length_take]; rfl)) ?_
      with_reducible refine (impl_Refines.calls kj2 t196 t197 t198 t199 _ _ t200 t203 t196 t197 t198 t199 _ _ t200 t203 false _ ?side1 ?side2 ?side3 ?side4 A29.out).mono ?_
      (case side1 => repeat (first | exact (Kd.R_reads' HO202.out).2.2 | (with_reducible refine Kd.C_alloc ?_ _) | (with_reducible refine Kd.C_drewN ?_ _) | (with_reducible refine Kd.C_drew ?_)))
      (case side2 => exact (Kd.R_reads' HO202.out).2.1)
      (case side3 => repeat (first | exact (Kd.R_reads' HO202.out).2.2 | (with_reducible refine Kd.C_alloc ?_ _) | (with_reducible refine Kd.C_drewN ?_ _) | (with_reducible refine Kd.C_drew ?_)))
      (case side4 => exact (Kd.R_reads' HO202.out).2.1)
      rintro e w47 ⟨rfl, hb⟩
      refine ⟨_, rfl, ?_⟩
      have n0_ := Aside0.mk (Kd.R_below (by exact HO202.out) hb)
      have n1_ := Aside0.mk (Kd.R_below (by exact HO210.out) hb)
      have n2_ := Aside0.mk (Kd.R_below (by exact HO220.out) hb)
      have n3_ := Aside0.mk (Kd.R_below (by exact HO228.out) hb)
      have n4_ := Aside0.mk (blk_below (g := gb212) (o := .cells #[.int .i64 t196, .bool t197, .int .i64 t198, .int .u64 t199, .slice Ao14 t200.length co14, .int .i64 t203] 53 (0, 0)) (by exact BK212.out) hb)
      have n5_ := Aside0.mk (blk_below (g := gb213) (o := .cells #[.int .i64 t204, .bool t205, .int .i64 t206, .int .u64 t207, .slice Ao16 t208.length co16, .int .i64 t211] 53 (0, 0)) (by exact BK213.out) hb)
      have n6_ := Aside0.mk (blk_below (g := gb230) (o := .cells #[.int .i64 t214, .bool t215, .int .i64 t216, .int .u64 t217, .slice Ao24 t218.length co24, .int .i64 t221] 53 (0, 0)) (by exact BK230.out) hb)
      have n7_ := Aside0.mk (blk_below (g := gb231) (o := .cells #[.int .i64 t222, .bool t223, .int .i64 t224, .int .u64 t225, .slice Ao28 t226.length co28, .int .i64 t229] 53 (0, 0)) (by exact BK231.out) hb)
      have n8_ := Aside0.mk (below_step (by repeat (first | (with_reducible first | exact HB.out | apply below_alloc | apply pw_below_drewN | apply below_drew1 | refine below_set ?_ GE212.out | refine below_set ?_ GE213.out | refine below_set ?_ GE230.out | refine below_set ?_ GE231.out) | exact HB.out)) hb)
      clear HO202
      clear HO210
      clear HO220
      clear HO228
      clear BK212
      clear BK213
      clear BK230
      clear BK231
      clear HB
      have HO202 := n0_
      have HO210 := n1_
      have HO220 := n2_
      have HO228 := n3_
      have BK212 := n4_
      have BK213 := n5_
      have BK230 := n6_
      have BK231 := n7_
      have HB := n8_
      clear n0_ n1_ n2_ n3_ n4_ n5_ n6_ n7_ n8_
      (try clear hb)
      (try clear hb2)
      (try clear hk)
      (try clear hi)
      refine hK.out _ _ ⟨(blk_cell BK212.out 0).trans rfl, (blk_cell BK212.out 1).trans rfl, (blk_cell BK212.out 2).trans rfl, (blk_cell BK212.out 3).trans rfl, (blk_cell BK212.out 4).trans rfl, (blk_cell BK212.out 5).trans rfl⟩ (fun hHeld => ?_)
      clear hK K
      refine norm_ (a' := ?_) ?_ ?_
      rotate_left
      ·show Act.put _ (some 32) _ = _
       simp only [Act.put, List.setIfInBounds_toArray, List.set_cons_zero, List.set_cons_succ, i64_w, i32_w]
       rfl
      refine pure_ (i := 3) (N := some 33) (v := ?_) (a' := ?_) #[true, true, true, true, false, false, false, false, false, false, false, false, false, false, false, false, false, false, false] rfl rfl (any_of HT_.out (by kernel_rfl)) (fun _ _ _ h => h) (Or.inl ⟨by rfl, ?_⟩) ?_ ?_
      rotate_left
      ·intro w'
       go_simp
       with_reducible rfl
      rotate_left
      ·simp only [Act.put, List.setIfInBounds_toArray, List.set_cons_zero, List.set_cons_succ, i64_w, i32_w]
       rfl
      refine pure_ (i := 4) (N := some 34) (v := ?_) (a' := ?_) #[true, true, true, true, true, false, false, false, false, false, false, false, false, false, false, false, false, false, false] rfl rfl (any_of HT_.out (by kernel_rfl)) (fun _ _ _ h => h) (Or.inl ⟨by rfl, ?_⟩) ?_ ?_
      rotate_left
      ·intro w'
       go_simp
       with_reducible rfl
      rotate_left
      ·simp only [Act.put, List.setIfInBounds_toArray, List.set_cons_zero, List.set_cons_succ, i64_w, i32_w]
       rfl
      refine pure_ (i := 5) (N := some 35) (v := undef) (a' := ?_) #[true, true, true, true, true, true, false, false, false, false, false, false, false, false, false, false, false, false, false] rfl rfl (any_of HT_.out (by kernel_rfl)) (fun _ _ _ h => h) (Or.inr ⟨by rfl, rfl⟩) ?_ ?_
      rotate_left
      ·simp only [Act.put, List.setIfInBounds_toArray, List.set_cons_zero, List.set_cons_succ, i64_w, i32_w]
       rfl
      refine pure_ (i := 6) (N := some 36) (v := undef) (a' := ?_) #[true, true, true, true, true, true, true, false, false, false, false, false, false, false, false, false, false, false, false] rfl rfl (any_of HT_.out (by kernel_rfl)) (fun _ _ _ h => h) (Or.inr ⟨by rfl, rfl⟩) ?_ ?_
      rotate_left
      ·simp only [Act.put, List.setIfInBounds_toArray, List.set_cons_zero, List.set_cons_succ, i64_w, i32_w]
       rfl
      refine pure_ (i := 7) (N := some 37) (v := undef) (a' := ?_) #[true, true, true, true, true, true, true, true, false, false, false, false, false, false, false, false, false, false, false] rfl rfl (any_of HT_.out (by kernel_rfl)) (fun _ _ _ h => h) (Or.inr ⟨by rfl, rfl⟩) ?_ ?_
      rotate_left
      ·simp only [Act.put, List.setIfInBounds_toArray, List.set_cons_zero, List.set_cons_succ, i64_w, i32_w]
       rfl
      refine pure_ (i := 8) (N := some 38) (v := undef) (a' := ?_) #[true, true, true, true, true, true, true, true, true, false, false, false, false, false, false, false, false, false, false] rfl rfl (any_of HT_.out (by kernel_rfl)) (fun _ _ _ h => h) (Or.inr ⟨by rfl, rfl⟩) ?_ ?_
      rotate_left
      ·simp only [Act.put, List.setIfInBounds_toArray, List.set_cons_zero, List.set_cons_succ, i64_w, i32_w]
       rfl
      refine pure_ (i := 9) (N := some 39) (v := ?_) (a' := ?_) #[true, true, true, true, true, true, true, true, true, true, false, false, false, false, false, false, false, false, false] rfl rfl (any_of HT_.out (by kernel_rfl)) (fun _ _ _ h => h) (Or.inl ⟨by rfl, ?_⟩) ?_ ?_
      rotate_left
      ·intro w'
       go_simp
       with_reducible rfl
      rotate_left
      ·simp only [Act.put, List.setIfInBounds_toArray, List.set_cons_zero, List.set_cons_succ, i64_w, i32_w]
       rfl
      refine pure_ (i := 10) (N := some 40) (v := ?_) (a' := ?_) #[true, true, true, true, true, true, true, true, true, true, true, false, false, false, false, false, false, false, false] rfl rfl (any_of HT_.out (by kernel_rfl)) (fun _ _ _ h => h) (Or.inl ⟨by rfl, ?_⟩) ?_ ?_
      rotate_left
      ·intro w'
       go_simp
       with_reducible rfl
      rotate_left
      ·simp only [Act.put, List.setIfInBounds_toArray, List.set_cons_zero, List.set_cons_succ, i64_w, i32_w]
       rfl
      refine pure_ (i := 11) (N := some 41) (v := undef) (a' := ?_) #[true, true, true, true, true, true, true, true, true, true, true, true, false, false, false, false, false, false, false] rfl rfl (any_of HT_.out (by kernel_rfl)) (fun _ _ _ h => h) (Or.inr ⟨by rfl, rfl⟩) ?_ ?_
      rotate_left
      ·simp only [Act.put, List.setIfInBounds_toArray, List.set_cons_zero, List.set_cons_succ, i64_w, i32_w]
       rfl
      refine pure_ (i := 12) (N := some 42) (v := undef) (a' := ?_) #[true, true, true, true, true, true, true, true, true, true, true, true, true, false, false, false, false, false, false] rfl rfl (any_of HT_.out (by kernel_rfl)) (fun _ _ _ h => h) (Or.inr ⟨by rfl, rfl⟩) ?_ ?_
      rotate_left
      ·simp only [Act.put, List.setIfInBounds_toArray, List.set_cons_zero, List.set_cons_succ, i64_w, i32_w]
       rfl
      refine pure_ (i := 13) (N := some 43) (v := undef) (a' := ?_) #[true, true, true, true, true, true, true, true, true, true, true, true, true, true, false, false, false, false, false] rfl rfl (any_of HT_.out (by kernel_rfl)) (fun _ _ _ h => h) (Or.inr ⟨by rfl, rfl⟩) ?_ ?_
      rotate_left
      ·simp only [Act.put, List.setIfInBounds_toArray, List.set_cons_zero, List.set_cons_succ, i64_w, i32_w]
       rfl
      refine pure_ (i := 14) (N := some 44) (v := undef) (a' := ?_) #[true, true, true, true, true, true, true, true, true, true, true, true, true, true, true, false, false, false, false] rfl rfl (any_of HT_.out (by kernel_rfl)) (fun _ _ _ h => h) (Or.inr ⟨by rfl, rfl⟩) ?_ ?_
      rotate_left
      ·simp only [Act.put, List.setIfInBounds_toArray, List.set_cons_zero, List.set_cons_succ, i64_w, i32_w]
       rfl
      refine pure_ (i := 15) (N := some 45) (v := undef) (a' := ?_) #[true, true, true, true, true, true, true, true, true, true, true, true, true, true, true, true, false, false, false] rfl rfl (any_of HT_.out (by kernel_rfl)) (fun _ _ _ h => h) (Or.inr ⟨by rfl, rfl⟩) ?_ ?_
      rotate_left
      ·simp only [Act.put, List.setIfInBounds_toArray, List.set_cons_zero, List.set_cons_succ, i64_w, i32_w]
       rfl
      refine pure_ (i := 16) (N := some 46) (v := undef) (a' := ?_) #[true, true, true, true, true, true, true, true, true, true, true, true, true, true, true, true, true, false, false] rfl rfl (any_of HT_.out (by kernel_rfl)) (fun _ _ _ h => h) (Or.inr ⟨by rfl, rfl⟩) ?_ ?_
      rotate_left
      ·simp only [Act.put, List.setIfInBounds_toArray, List.set_cons_zero, List.set_cons_succ, i64_w, i32_w]
       rfl
      refine pure_ (i := 17) (N := some 47) (v := undef) (a' := ?_) #[true, true, true, true, true, true, true, true, true, true, true, true, true, true, true, true, true, true, false] rfl rfl (any_of HT_.out (by kernel_rfl)) (fun _ _ _ h => h) (Or.inr ⟨by rfl, rfl⟩) ?_ ?_
      rotate_left
      ·simp only [Act.put, List.setIfInBounds_toArray, List.set_cons_zero, List.set_cons_succ, i64_w, i32_w]
       rfl
      refine pure_ (i := 18) (N := some 48) (v := ?_) (a' := ?_) #[true, true, true, true, true, true, true, true, true, true, true, true, true, true, true, true, true, true, true] rfl rfl (any_of HT_.out (by kernel_rfl)) (fun _ _ _ h => h) (Or.inl ⟨by rfl, ?_⟩) ?_ ?_
      rotate_left
      ·intro w'
       go_simp
       with_reducible rfl
      rotate_left
      ·simp only [Act.put, List.setIfInBounds_toArray, List.set_cons_zero, List.set_cons_succ, i64_w, i32_w]
       rfl
      refine done_ (done_of HT_.out (by kernel_rfl)) ?_
      try go_wp2
      go_meet
      case rel => exact ⟨_, (true), (by first | rfl | (simp; done) | (simp [*]; done)), H', ⟨by have := HJ2.out; first | omega | exact Nat.le_refl _⟩, ⟨by exact HO202.out⟩, ⟨by exact HO210.out⟩, ⟨by exact HO220.out⟩, ⟨by exact HO228.out⟩, ⟨by exact BK212.out⟩, ⟨by exact BK213.out⟩, ⟨by exact BK230.out⟩, ⟨by exact BK231.out⟩, ⟨by repeat (first | (with_reducible first | exact HB.out | apply below_alloc | apply pw_below_drewN | apply below_drew1 | refine below_set ?_ GE212.out | refine below_set ?_ GE213.out | refine below_set ?_ GE230.out | refine below_set ?_ GE231.out) | exact HB.out)⟩⟩
    case rest =>
     clear HC8
     try clear p2
     try clear c3
     try clear c30
     try clear c32
     try clear c34
     try clear c35
     obtain ⟨kq, x48_7, rfl, HA, HJ7, HO_213004, HO_214004, HO_231004, HO_232004, BK212, BK213, BK230, BK231, HB⟩ := hcut
     cases kq with
     | zero => exact absurd HA.out (by simp [laws_FnRefines.j1])
     | succ kj7 =>
      have H := HA.out
      clear HA
      simp only [laws_FnRefines.j1] at H
      by_cases c48 : x48_7 = true
      ·subst c48
       have H1 : (some false) = some r := by rw [if_pos rfl] at H; exact H
       clear H
       have H := H1
       clear H1
       obtain rfl := Option.some.inj H
       exact absurd hlaw.out (by simp)
      ·replace c48 := Bool.eq_false_iff.mpr c48
       subst c48
       have H1 : (if t204 = 0 then (if t205 = true then (laws_FnRefines.j2 kj7 (t204 == 1) t196 t197 t198 t199 t200 t203 t204 t205 t206 t207 t208 t211 t222 t223 t224 t225 t226 t229) else (if t206 = 0 then (laws_FnRefines.j2 kj7 true t196 t197 t198 t199 t200 t203 t204 t205 t206 t207 t208 t211 t222 t223 t224 t225 t226 t229) else (laws_FnRefines.j2 kj7 (t204 == 1) t196 t197 t198 t199 t200 t203 t204 t205 t206 t207 t208 t211 t222 t223 t224 t225 t226 t229))) else (laws_FnRefines.j2 kj7 (t204 == 1) t196 t197 t198 t199 t200 t203 t204 t205 t206 t207 t208 t211 t222 t223 t224 t225 t226 t229)) = some r := by rw [if_neg (show ¬ (false = true) by decide)] at H; exact H
       clear H
       have H := H1
       clear H1
       have HC49 := Aside0.mk H
       clear H
       go_upto_region 7 with (fail)
       go_cut [9] (fun v9 wc => ∃ (kq : Nat) (x9_48 : Bool), v9 = .bool x9_48 ∧ Aside0 (laws_FnRefines.j2 kq x9_48 t196 t197 t198 t199 t200 t203 t204 t205 t206 t207 t208 t211 t222 t223 t224 t225 t226 t229 = some r) ∧ Aside0 (kq ≤ kj7) ∧ Aside0 (Kd.R (Kd.int .u64) 38 wc w.heap.size (fun k_ => some k_ ≠ ((.slice Ao16 t208.length co16) : Value).ownBlock ∧ some k_ ≠ ((.slice Ao24 t218.length co24) : Value).ownBlock ∧ some k_ ≠ ((.slice Ao28 t226.length co28) : Value).ownBlock) (.slice Ao14 t200.length co14) t200) ∧ Aside0 (Kd.R (Kd.int .u64) 38 wc w.heap.size (fun k_ => some k_ ≠ ((.slice Ao14 t200.length co14) : Value).ownBlock ∧ some k_ ≠ ((.slice Ao24 t218.length co24) : Value).ownBlock ∧ some k_ ≠ ((.slice Ao28 t226.length co28) : Value).ownBlock) (.slice Ao16 t208.length co16) t208) ∧ Aside0 (Kd.R (Kd.int .u64) 38 wc w.heap.size (fun k_ => some k_ ≠ ((.slice Ao14 t200.length co14) : Value).ownBlock ∧ some k_ ≠ ((.slice Ao16 t208.length co16) : Value).ownBlock ∧ some k_ ≠ ((.slice Ao28 t226.length co28) : Value).ownBlock) (.slice Ao24 t218.length co24) t218) ∧ Aside0 (Kd.R (Kd.int .u64) 38 wc w.heap.size (fun k_ => some k_ ≠ ((.slice Ao14 t200.length co14) : Value).ownBlock ∧ some k_ ≠ ((.slice Ao16 t208.length co16) : Value).ownBlock ∧ some k_ ≠ ((.slice Ao24 t218.length co24) : Value).ownBlock) (.slice Ao28 t226.length co28) t226) ∧ Aside0 (wc.heap[gb212]? = some (.cells #[.int .i64 t196, .bool t197, .int .i64 t198, .int .u64 t199, (.slice Ao14 t200.length co14), .int .i64 t203] 53 (0, 0))) ∧ Aside0 (wc.heap[gb213]? = some (.cells #[.int .i64 t204, .bool t205, .int .i64 t206, .int .u64 t207, (.slice Ao16 t208.length co16), .int .i64 t211] 53 (0, 0))) ∧ Aside0 (wc.heap[gb230]? = some (.cells #[.int .i64 t214, .bool t215, .int .i64 t216, .int .u64 t217, (.slice Ao24 t218.length co24), .int .i64 t221] 53 (0, 0))) ∧ Aside0 (wc.heap[gb231]? = some (.cells #[.int .i64 t222, .bool t223, .int .i64 t224, .int .u64 t225, (.slice Ao28 t226.length co28), .int .i64 t229] 53 (0, 0))) ∧ Aside0 (Below w.heap.size w wc))
       case first =>
        have H := HC49.out
        clear HC49
        by_cases c50 : t204 = 0
        ·rw [if_pos c50] at H
         have c50b0 : (t204 == 0) = true := beq_iff_eq.mpr c50
         have c50b1 : (t204 != 0) = false := bne_eq_false_iff_eq.mpr c50
         clear c50
         (first | rw [c50b0] | (simp only [i64_w, i32_w]; rw [c50b0]) | skip)
         by_cases c51 : t205 = true
         ·subst c51
          have H1 : (laws_FnRefines.j2 kj7 (t204 == 1) t196 t197 t198 t199 t200 t203 t204 true t206 t207 t208 t211 t222 t223 t224 t225 t226 t229) = some r := by rw [if_pos rfl] at H; exact H
          clear H
          have H := H1
          clear H1
          have H' := Aside0.mk H
          clear H
          have hnb52 := NB213_212.out
          have hnc52 := NB212_213.out
          have hnb53 := NB213_230.out
          have hnc53 := NB230_213.out
          have hnb54 := NB213_231.out
          have hnc54 := NB231_213.out
          have hcz55_0 : wc.cell? ⟨gb213, 0, none⟩ = some (.int .i64 t204) := (blk_cell BK213.out 0).trans rfl
          have hcz55_1 : wc.cell? ⟨gb213, 1, none⟩ = some (.bool true) := (blk_cell BK213.out 1).trans rfl
          have hcz55_2 : wc.cell? ⟨gb213, 2, none⟩ = some (.int .i64 t206) := (blk_cell BK213.out 2).trans rfl
          have hcz55_3 : wc.cell? ⟨gb213, 3, none⟩ = some (.int .u64 t207) := (blk_cell BK213.out 3).trans rfl
          have hcz55_4 : wc.cell? ⟨gb213, 4, none⟩ = some (.slice Ao16 t208.length co16) := (blk_cell BK213.out 4).trans rfl
          have hcz55_5 : wc.cell? ⟨gb213, 5, none⟩ = some (.int .i64 t211) := (blk_cell BK213.out 5).trans rfl
          have hfz55_0 := blk_frozen BK213.out 0
          have hfz55_1 := blk_frozen BK213.out 1
          have hfz55_2 := blk_frozen BK213.out 2
          have hfz55_3 := blk_frozen BK213.out 3
          have hfz55_4 := blk_frozen BK213.out 4
          have hfz55_5 := blk_frozen BK213.out 5
          go_wp2
          go_meet
          case rel => exact ⟨_, ((t204 == 1)), (by first | rfl | (simp; done) | (simp [*]; done)), H', ⟨by have := HJ2.out; have := HJ7.out; first | omega | exact Nat.le_refl _⟩, ⟨by exact HO_213004.out⟩, ⟨by exact HO_214004.out⟩, ⟨by exact HO_231004.out⟩, ⟨by exact HO_232004.out⟩, ⟨by exact BK212.out⟩, ⟨by exact BK213.out⟩, ⟨by exact BK230.out⟩, ⟨by exact BK231.out⟩, ⟨by repeat (first | (with_reducible first | exact HB.out | apply below_alloc | apply pw_below_drewN | apply below_drew1 | refine below_set ?_ GE212.out | refine below_set ?_ GE213.out | refine below_set ?_ GE230.out | refine below_set ?_ GE231.out) | exact HB.out)⟩⟩
         ·replace c51 := Bool.eq_false_iff.mpr c51
          subst c51
          have H1 : (if t206 = 0 then (laws_FnRefines.j2 kj7 true t196 t197 t198 t199 t200 t203 t204 false t206 t207 t208 t211 t222 t223 t224 t225 t226 t229) else (laws_FnRefines.j2 kj7 (t204 == 1) t196 t197 t198 t199 t200 t203 t204 false t206 t207 t208 t211 t222 t223 t224 t225 t226 t229)) = some r := by rw [if_neg (show ¬ (false = true) by decide)] at H; exact H
          clear H
          have H := H1
          clear H1
          by_cases c56 : t206 = 0
          ·rw [if_pos c56] at H
           have c56b0 : (t206 == 0) = true := beq_iff_eq.mpr c56
           have c56b1 : (t206 != 0) = false := bne_eq_false_iff_eq.mpr c56
           clear c56
           have H' := Aside0.mk H
           clear H
           have hnb57 := NB213_212.out
           have hnc57 := NB212_213.out
           have hnb58 := NB213_230.out
           have hnc58 := NB230_213.out
           have hnb59 := NB213_231.out
           have hnc59 := NB231_213.out
           have hcz60_0 : wc.cell? ⟨gb213, 0, none⟩ = some (.int .i64 t204) := (blk_cell BK213.out 0).trans rfl
           have hcz60_1 : wc.cell? ⟨gb213, 1, none⟩ = some (.bool false) := (blk_cell BK213.out 1).trans rfl
           have hcz60_2 : wc.cell? ⟨gb213, 2, none⟩ = some (.int .i64 t206) := (blk_cell BK213.out 2).trans rfl
           have hcz60_3 : wc.cell? ⟨gb213, 3, none⟩ = some (.int .u64 t207) := (blk_cell BK213.out 3).trans rfl
           have hcz60_4 : wc.cell? ⟨gb213, 4, none⟩ = some (.slice Ao16 t208.length co16) := (blk_cell BK213.out 4).trans rfl
           have hcz60_5 : wc.cell? ⟨gb213, 5, none⟩ = some (.int .i64 t211) := (blk_cell BK213.out 5).trans rfl
           have hfz60_0 := blk_frozen BK213.out 0
           have hfz60_1 := blk_frozen BK213.out 1
           have hfz60_2 := blk_frozen BK213.out 2
           have hfz60_3 := blk_frozen BK213.out 3
           have hfz60_4 := blk_frozen BK213.out 4
           have hfz60_5 := blk_frozen BK213.out 5
           go_wp2
           go_meet
           case rel => exact ⟨_, (true), (by first | rfl | (simp; done) | (simp [*]; done)), H', ⟨by have := HJ2.out; have := HJ7.out; first | omega | exact Nat.le_refl _⟩, ⟨by exact HO_213004.out⟩, ⟨by exact HO_214004.out⟩, ⟨by exact HO_231004.out⟩, ⟨by exact HO_232004.out⟩, ⟨by exact BK212.out⟩, ⟨by exact BK213.out⟩, ⟨by exact BK230.out⟩, ⟨by exact BK231.out⟩, ⟨by repeat (first | (with_reducible first | exact HB.out | apply below_alloc | apply pw_below_drewN | apply below_drew1 | refine below_set ?_ GE212.out | refine below_set ?_ GE213.out | refine below_set ?_ GE230.out | refine below_set ?_ GE231.out) | exact HB.out)⟩⟩
          ·rw [if_neg c56] at H
           have c56b0 : (t206 == 0) = false := beq_eq_false_iff_ne.mpr c56
           have c56b1 : (t206 != 0) = true := bne_iff_ne.mpr c56
           have H' := Aside0.mk H
           clear H
           have hnb61 := NB213_212.out
           have hnc61 := NB212_213.out
           have hnb62 := NB213_230.out
           have hnc62 := NB230_213.out
           have hnb63 := NB213_231.out
           have hnc63 := NB231_213.out
           have hcz64_0 : wc.cell? ⟨gb213, 0, none⟩ = some (.int .i64 t204) := (blk_cell BK213.out 0).trans rfl
           have hcz64_1 : wc.cell? ⟨gb213, 1, none⟩ = some (.bool false) := (blk_cell BK213.out 1).trans rfl
           have hcz64_2 : wc.cell? ⟨gb213, 2, none⟩ = some (.int .i64 t206) := (blk_cell BK213.out 2).trans rfl
           have hcz64_3 : wc.cell? ⟨gb213, 3, none⟩ = some (.int .u64 t207) := (blk_cell BK213.out 3).trans rfl
           have hcz64_4 : wc.cell? ⟨gb213, 4, none⟩ = some (.slice Ao16 t208.length co16) := (blk_cell BK213.out 4).trans rfl
           have hcz64_5 : wc.cell? ⟨gb213, 5, none⟩ = some (.int .i64 t211) := (blk_cell BK213.out 5).trans rfl
           have hfz64_0 := blk_frozen BK213.out 0
           have hfz64_1 := blk_frozen BK213.out 1
           have hfz64_2 := blk_frozen BK213.out 2
           have hfz64_3 := blk_frozen BK213.out 3
           have hfz64_4 := blk_frozen BK213.out 4
           have hfz64_5 := blk_frozen BK213.out 5
           go_wp2
           go_meet
           case rel => exact ⟨_, ((t204 == 1)), (by first | rfl | (simp; done) | (simp [*]; done)), H', ⟨by have := HJ2.out; have := HJ7.out; first | omega | exact Nat.le_refl _⟩, ⟨by exact HO_213004.out⟩, ⟨by exact HO_214004.out⟩, ⟨by exact HO_231004.out⟩, ⟨by exact HO_232004.out⟩, ⟨by exact BK212.out⟩, ⟨by exact BK213.out⟩, ⟨by exact BK230.out⟩, ⟨by exact BK231.out⟩, ⟨by repeat (first | (with_reducible first | exact HB.out | apply below_alloc | apply pw_below_drewN | apply below_drew1 | refine below_set ?_ GE212.out | refine below_set ?_ GE213.out | refine below_set ?_ GE230.out | refine below_set ?_ GE231.out) | exact HB.out)⟩⟩
        ·rw [if_neg c50] at H
         have c50b0 : (t204 == 0) = false := beq_eq_false_iff_ne.mpr c50
         have c50b1 : (t204 != 0) = true := bne_iff_ne.mpr c50
         (first | rw [c50b0] | (simp only [i64_w, i32_w]; rw [c50b0]) | skip)
         have H' := Aside0.mk H
         clear H
         have hnb65 := NB213_212.out
         have hnc65 := NB212_213.out
         have hnb66 := NB213_230.out
         have hnc66 := NB230_213.out
         have hnb67 := NB213_231.out
         have hnc67 := NB231_213.out
         have hcz68_0 : wc.cell? ⟨gb213, 0, none⟩ = some (.int .i64 t204) := (blk_cell BK213.out 0).trans rfl
         have hcz68_1 : wc.cell? ⟨gb213, 1, none⟩ = some (.bool t205) := (blk_cell BK213.out 1).trans rfl
         have hcz68_2 : wc.cell? ⟨gb213, 2, none⟩ = some (.int .i64 t206) := (blk_cell BK213.out 2).trans rfl
         have hcz68_3 : wc.cell? ⟨gb213, 3, none⟩ = some (.int .u64 t207) := (blk_cell BK213.out 3).trans rfl
         have hcz68_4 : wc.cell? ⟨gb213, 4, none⟩ = some (.slice Ao16 t208.length co16) := (blk_cell BK213.out 4).trans rfl
         have hcz68_5 : wc.cell? ⟨gb213, 5, none⟩ = some (.int .i64 t211) := (blk_cell BK213.out 5).trans rfl
         have hfz68_0 := blk_frozen BK213.out 0
         have hfz68_1 := blk_frozen BK213.out 1
         have hfz68_2 := blk_frozen BK213.out 2
         have hfz68_3 := blk_frozen BK213.out 3
         have hfz68_4 := blk_frozen BK213.out 4
         have hfz68_5 := blk_frozen BK213.out 5
         go_wp2
         go_meet
         case rel => exact ⟨_, ((t204 == 1)), (by first | rfl | (simp; done) | (simp [*]; done)), H', ⟨by have := HJ2.out; have := HJ7.out; first | omega | exact Nat.le_refl _⟩, ⟨by exact HO_213004.out⟩, ⟨by exact HO_214004.out⟩, ⟨by exact HO_231004.out⟩, ⟨by exact HO_232004.out⟩, ⟨by exact BK212.out⟩, ⟨by exact BK213.out⟩, ⟨by exact BK230.out⟩, ⟨by exact BK231.out⟩, ⟨by repeat (first | (with_reducible first | exact HB.out | apply below_alloc | apply pw_below_drewN | apply below_drew1 | refine below_set ?_ GE212.out | refine below_set ?_ GE213.out | refine below_set ?_ GE230.out | refine below_set ?_ GE231.out) | exact HB.out)⟩⟩
       case rest =>
        clear HC49
        try clear p2
        try clear c3
        try clear c4
        try clear c5
        try clear c6
        try clear c30
        try clear c32
        try clear c34
        try clear c35
        try clear c48
        try clear c50
        try clear c50b0
        try clear c50b1
        try clear c51
        try clear c52
        try clear c53
        try clear c54
        try clear c56
        try clear c56b0
        try clear c56b1
        try clear c57
        try clear c58
        try clear c59
        try clear c61
        try clear c62
        try clear c63
        try clear c65
        try clear c66
        try clear c67
        try clear hcz55_0
        try clear hcz55_1
        try clear hcz55_2
        try clear hcz55_3
        try clear hcz55_4
        try clear hcz55_5
        try clear hcz60_0
        try clear hcz60_1
        try clear hcz60_2
        try clear hcz60_3
        try clear hcz60_4
        try clear hcz60_5
        try clear hcz64_0
        try clear hcz64_1
        try clear hcz64_2
        try clear hcz64_3
        try clear hcz64_4
        try clear hcz64_5
        try clear hcz68_0
        try clear hcz68_1
        try clear hcz68_2
        try clear hcz68_3
        try clear hcz68_4
        try clear hcz68_5
        try clear hfz55_0
        try clear hfz55_1
        try clear hfz55_2
        try clear hfz55_3
        try clear hfz55_4
        try clear hfz55_5
        try clear hfz60_0
        try clear hfz60_1
        try clear hfz60_2
        try clear hfz60_3
        try clear hfz60_4
        try clear hfz60_5
        try clear hfz64_0
        try clear hfz64_1
        try clear hfz64_2
        try clear hfz64_3
        try clear hfz64_4
        try clear hfz64_5
        try clear hfz68_0
        try clear hfz68_1
        try clear hfz68_2
        try clear hfz68_3
        try clear hfz68_4
        try clear hfz68_5
        try clear p2
        obtain ⟨kq, x9_48, rfl, HA, HJ48, HO_213004, HO_214004, HO_231004, HO_232004, BK212, BK213, BK230, BK231, HB⟩ := hcut
        cases kq with
        | zero => exact absurd HA.out (by simp [laws_FnRefines.j2])
        | succ kj48 =>
         have H := HA.out
         clear HA
         simp only [laws_FnRefines.j2] at H
         have HC69 := Aside0.mk H
         clear H
         go_upto_region 8 with (fail)
         go_cut [85] (fun v85 wc => ∃ (kq : Nat) (x85_68 : Bool), v85 = .bool x85_68 ∧ Aside0 (laws_FnRefines.j3 kq x85_68 t196 t197 t198 t199 t200 t203 = some r) ∧ Aside0 (kq ≤ kj48) ∧ Aside0 (Kd.R (Kd.int .u64) 38 wc w.heap.size (fun k_ => some k_ ≠ ((.slice Ao16 t208.length co16) : Value).ownBlock ∧ some k_ ≠ ((.slice Ao24 t218.length co24) : Value).ownBlock ∧ some k_ ≠ ((.slice Ao28 t226.length co28) : Value).ownBlock) (.slice Ao14 t200.length co14) t200) ∧ Aside0 (Kd.R (Kd.int .u64) 38 wc w.heap.size (fun k_ => some k_ ≠ ((.slice Ao14 t200.length co14) : Value).ownBlock ∧ some k_ ≠ ((.slice Ao24 t218.length co24) : Value).ownBlock ∧ some k_ ≠ ((.slice Ao28 t226.length co28) : Value).ownBlock) (.slice Ao16 t208.length co16) t208) ∧ Aside0 (Kd.R (Kd.int .u64) 38 wc w.heap.size (fun k_ => some k_ ≠ ((.slice Ao14 t200.length co14) : Value).ownBlock ∧ some k_ ≠ ((.slice Ao16 t208.length co16) : Value).ownBlock ∧ some k_ ≠ ((.slice Ao28 t226.length co28) : Value).ownBlock) (.slice Ao24 t218.length co24) t218) ∧ Aside0 (Kd.R (Kd.int .u64) 38 wc w.heap.size (fun k_ => some k_ ≠ ((.slice Ao14 t200.length co14) : Value).ownBlock ∧ some k_ ≠ ((.slice Ao16 t208.length co16) : Value).ownBlock ∧ some k_ ≠ ((.slice Ao24 t218.length co24) : Value).ownBlock) (.slice Ao28 t226.length co28) t226) ∧ Aside0 (wc.heap[gb212]? = some (.cells #[.int .i64 t196, .bool t197, .int .i64 t198, .int .u64 t199, (.slice Ao14 t200.length co14), .int .i64 t203] 53 (0, 0))) ∧ Aside0 (wc.heap[gb213]? = some (.cells #[.int .i64 t204, .bool t205, .int .i64 t206, .int .u64 t207, (.slice Ao16 t208.length co16), .int .i64 t211] 53 (0, 0))) ∧ Aside0 (wc.heap[gb230]? = some (.cells #[.int .i64 t214, .bool t215, .int .i64 t216, .int .u64 t217, (.slice Ao24 t218.length co24), .int .i64 t221] 53 (0, 0))) ∧ Aside0 (wc.heap[gb231]? = some (.cells #[.int .i64 t222, .bool t223, .int .i64 t224, .int .u64 t225, (.slice Ao28 t226.length co28), .int .i64 t229] 53 (0, 0))) ∧ Aside0 (Below w.heap.size w wc))
         case first =>
          have H := HC69.out
          clear HC69
          by_cases c70 : x9_48 = true
          ·subst c70
           have H1 : ((impl_Refines.f kj48 t196 t197 t198 t199 t200 t203 t204 t205 t206 t207 t208 t211).bind fun t236 => (if t236 = true then ((impl_Refines.f kj48 t204 t205 t206 t207 t208 t211 t222 t223 t224 t225 t226 t229).bind fun t237 => (if t237 = true then ((impl_Refines.f kj48 t196 t197 t198 t199 t200 t203 t222 t223 t224 t225 t226 t229).bind fun t238 => (laws_FnRefines.j3 kj48 (!t238) t196 t197 t198 t199 t200 t203)) else (laws_FnRefines.j3 kj48 false t196 t197 t198 t199 t200 t203))) else (laws_FnRefines.j3 kj48 false t196 t197 t198 t199 t200 t203))) = some r := by rw [if_pos rfl] at H; exact H
           clear H
           have H := H1
           clear H1
           replace H := Option.bind_eq_some_iff.mp H
           obtain ⟨t236, A710, H⟩ := H
           replace H : (if t236 = true then ((impl_Refines.f kj48 t204 t205 t206 t207 t208 t211 t222 t223 t224 t225 t226 t229).bind fun t237 => (if t237 = true then ((impl_Refines.f kj48 t196 t197 t198 t199 t200 t203 t222 t223 t224 t225 t226 t229).bind fun t238 => (laws_FnRefines.j3 kj48 (!t238) t196 t197 t198 t199 t200 t203)) else (laws_FnRefines.j3 kj48 false t196 t197 t198 t199 t200 t203))) else (laws_FnRefines.j3 kj48 false t196 t197 t198 t199 t200 t203)) = some r := H
           have A71 := Aside0.mk A710
           clear A710
           by_cases c72 : t236 = true
           ·subst c72
            have H1 : ((impl_Refines.f kj48 t204 t205 t206 t207 t208 t211 t222 t223 t224 t225 t226 t229).bind fun t237 => (if t237 = true then ((impl_Refines.f kj48 t196 t197 t198 t199 t200 t203 t222 t223 t224 t225 t226 t229).bind fun t238 => (laws_FnRefines.j3 kj48 (!t238) t196 t197 t198 t199 t200 t203)) else (laws_FnRefines.j3 kj48 false t196 t197 t198 t199 t200 t203))) = some r := by rw [if_pos rfl] at H; exact H
            clear H
            have H := H1
            clear H1
            replace H := Option.bind_eq_some_iff.mp H
            obtain ⟨t237, A730, H⟩ := H
            replace H : (if t237 = true then ((impl_Refines.f kj48 t196 t197 t198 t199 t200 t203 t222 t223 t224 t225 t226 t229).bind fun t238 => (laws_FnRefines.j3 kj48 (!t238) t196 t197 t198 t199 t200 t203)) else (laws_FnRefines.j3 kj48 false t196 t197 t198 t199 t200 t203)) = some r := H
            have A73 := Aside0.mk A730
            clear A730
            by_cases c74 : t237 = true
            ·subst c74
             have H1 : ((impl_Refines.f kj48 t196 t197 t198 t199 t200 t203 t222 t223 t224 t225 t226 t229).bind fun t238 => (laws_FnRefines.j3 kj48 (!t238) t196 t197 t198 t199 t200 t203)) = some r := by rw [if_pos rfl] at H; exact H
             clear H
             have H := H1
             clear H1
             replace H := Option.bind_eq_some_iff.mp H
             obtain ⟨t238, A750, H⟩ := H
             replace H : (laws_FnRefines.j3 kj48 (!t238) t196 t197 t198 t199 t200 t203) = some r := H
             have A75 := Aside0.mk A750
             clear A750
             have H' := Aside0.mk H
             clear H
             have hnb76 := NB212_213.out
             have hnc76 := NB213_212.out
             have hnb77 := NB212_230.out
             have hnc77 := NB230_212.out
             have hnb78 := NB212_231.out
             have hnc78 := NB231_212.out
             have hcz79_0 : wc.cell? ⟨gb212, 0, none⟩ = some (.int .i64 t196) := (blk_cell BK212.out 0).trans rfl
             have hcz79_1 : wc.cell? ⟨gb212, 1, none⟩ = some (.bool t197) := (blk_cell BK212.out 1).trans rfl
             have hcz79_2 : wc.cell? ⟨gb212, 2, none⟩ = some (.int .i64 t198) := (blk_cell BK212.out 2).trans rfl
             have hcz79_3 : wc.cell? ⟨gb212, 3, none⟩ = some (.int .u64 t199) := (blk_cell BK212.out 3).trans rfl
             have hcz79_4 : wc.cell? ⟨gb212, 4, none⟩ = some (.slice Ao14 t200.length co14) := (blk_cell BK212.out 4).trans rfl
             have hcz79_5 : wc.cell? ⟨gb212, 5, none⟩ = some (.int .i64 t203) := (blk_cell BK212.out 5).trans rfl
             have hfz79_0 := blk_frozen BK212.out 0
             have hfz79_1 := blk_frozen BK212.out 1
             have hfz79_2 := blk_frozen BK212.out 2
             have hfz79_3 := blk_frozen BK212.out 3
             have hfz79_4 := blk_frozen BK212.out 4
             have hfz79_5 := blk_frozen BK212.out 5
             have hnb80 := NB213_230.out
             have hnc80 := NB230_213.out
             have hnb81 := NB213_231.out
             have hnc81 := NB231_213.out
             have hcz82_0 : wc.cell? ⟨gb213, 0, none⟩ = some (.int .i64 t204) := (blk_cell BK213.out 0).trans rfl
             have hcz82_1 : wc.cell? ⟨gb213, 1, none⟩ = some (.bool t205) := (blk_cell BK213.out 1).trans rfl
             have hcz82_2 : wc.cell? ⟨gb213, 2, none⟩ = some (.int .i64 t206) := (blk_cell BK213.out 2).trans rfl
             have hcz82_3 : wc.cell? ⟨gb213, 3, none⟩ = some (.int .u64 t207) := (blk_cell BK213.out 3).trans rfl
             have hcz82_4 : wc.cell? ⟨gb213, 4, none⟩ = some (.slice Ao16 t208.length co16) := (blk_cell BK213.out 4).trans rfl
             have hcz82_5 : wc.cell? ⟨gb213, 5, none⟩ = some (.int .i64 t211) := (blk_cell BK213.out 5).trans rfl
             have hfz82_0 := blk_frozen BK213.out 0
             have hfz82_1 := blk_frozen BK213.out 1
             have hfz82_2 := blk_frozen BK213.out 2
             have hfz82_3 := blk_frozen BK213.out 3
             have hfz82_4 := blk_frozen BK213.out 4
             have hfz82_5 := blk_frozen BK213.out 5
             go_wp2_with (first | (go_at_call 34; (with_reducible refine (impl_Refines.calls kj48 t196 t197 t198 t199 _ _ t200 t203 t204 t205 t206 t207 _ _ t208 t211 true _ ?side1 ?side2 ?side3 ?side4 A71.out).mono ?_); (case side1 => repeat (first | exact (Kd.R_reads' HO_213004.out).2.2 | (with_reducible refine Kd.C_alloc ?_ _) | (with_reducible refine Kd.C_drewN ?_ _) | (with_reducible refine Kd.C_drew ?_))); (case side2 => exact (Kd.R_reads' HO_213004.out).2.1); (case side3 => repeat (first | exact (Kd.R_reads' HO_214004.out).2.2 | (with_reducible refine Kd.C_alloc ?_ _) | (with_reducible refine Kd.C_drewN ?_ _) | (with_reducible refine Kd.C_drew ?_))); (case side4 => exact (Kd.R_reads' HO_214004.out).2.1); rintro e w83 ⟨rfl, hb⟩; have n0_ := Aside0.mk (Kd.R_below (by exact HO_213004.out) hb); have n1_ := Aside0.mk (Kd.R_below (by exact HO_214004.out) hb); have n2_ := Aside0.mk (Kd.R_below (by exact HO_231004.out) hb); have n3_ := Aside0.mk (Kd.R_below (by exact HO_232004.out) hb); have n4_ := Aside0.mk (blk_below (g := gb212) (o := .cells #[.int .i64 t196, .bool t197, .int .i64 t198, .int .u64 t199, .slice Ao14 t200.length co14, .int .i64 t203] 53 (0, 0)) (by exact BK212.out) hb); have n5_ := Aside0.mk (blk_below (g := gb213) (o := .cells #[.int .i64 t204, .bool t205, .int .i64 t206, .int .u64 t207, .slice Ao16 t208.length co16, .int .i64 t211] 53 (0, 0)) (by exact BK213.out) hb); have n6_ := Aside0.mk (blk_below (g := gb230) (o := .cells #[.int .i64 t214, .bool t215, .int .i64 t216, .int .u64 t217, .slice Ao24 t218.length co24, .int .i64 t221] 53 (0, 0)) (by exact BK230.out) hb); have n7_ := Aside0.mk (blk_below (g := gb231) (o := .cells #[.int .i64 t222, .bool t223, .int .i64 t224, .int .u64 t225, .slice Ao28 t226.length co28, .int .i64 t229] 53 (0, 0)) (by exact BK231.out) hb); have n8_ := Aside0.mk (below_step (by repeat (first | (with_reducible first | exact HB.out | apply below_alloc | apply pw_below_drewN | apply below_drew1 | refine below_set ?_ GE212.out | refine below_set ?_ GE213.out | refine below_set ?_ GE230.out | refine below_set ?_ GE231.out) | exact HB.out)) hb); clear HO_213004; clear HO_214004; clear HO_231004; clear HO_232004; clear BK212; clear BK213; clear BK230; clear BK231; clear HB; have HO_213004 := n0_; have HO_214004 := n1_; have HO_231004 := n2_; have HO_232004 := n3_; have BK212 := n4_; have BK213 := n5_; have BK230 := n6_; have BK231 := n7_; have HB := n8_; clear n0_ n1_ n2_ n3_ n4_ n5_ n6_ n7_ n8_; (try clear hb); (try clear hb2); (try clear hk); (try clear hi); have hcz84_0 : w83.cell? ⟨gb213, 0, none⟩ = some (.int .i64 t204) := (blk_cell BK213.out 0).trans rfl; have hcz84_1 : w83.cell? ⟨gb213, 1, none⟩ = some (.bool t205) := (blk_cell BK213.out 1).trans rfl; have hcz84_2 : w83.cell? ⟨gb213, 2, none⟩ = some (.int .i64 t206) := (blk_cell BK213.out 2).trans rfl; have hcz84_3 : w83.cell? ⟨gb213, 3, none⟩ = some (.int .u64 t207) := (blk_cell BK213.out 3).trans rfl; have hcz84_4 : w83.cell? ⟨gb213, 4, none⟩ = some (.slice Ao16 t208.length co16) := (blk_cell BK213.out 4).trans rfl; have hcz84_5 : w83.cell? ⟨gb213, 5, none⟩ = some (.int .i64 t211) := (blk_cell BK213.out 5).trans rfl; have hfz84_0 := blk_frozen BK213.out 0; have hfz84_1 := blk_frozen BK213.out 1; have hfz84_2 := blk_frozen BK213.out 2; have hfz84_3 := blk_frozen BK213.out 3; have hfz84_4 := blk_frozen BK213.out 4; have hfz84_5 := blk_frozen BK213.out 5; have hnb85 := NB231_230.out; have hnc85 := NB230_231.out; have hcz86_0 : w83.cell? ⟨gb231, 0, none⟩ = some (.int .i64 t222) := (blk_cell BK231.out 0).trans rfl; have hcz86_1 : w83.cell? ⟨gb231, 1, none⟩ = some (.bool t223) := (blk_cell BK231.out 1).trans rfl; have hcz86_2 : w83.cell? ⟨gb231, 2, none⟩ = some (.int .i64 t224) := (blk_cell BK231.out 2).trans rfl; have hcz86_3 : w83.cell? ⟨gb231, 3, none⟩ = some (.int .u64 t225) := (blk_cell BK231.out 3).trans rfl; have hcz86_4 : w83.cell? ⟨gb231, 4, none⟩ = some (.slice Ao28 t226.length co28) := (blk_cell BK231.out 4).trans rfl; have hcz86_5 : w83.cell? ⟨gb231, 5, none⟩ = some (.int .i64 t229) := (blk_cell BK231.out 5).trans rfl; have hfz86_0 := blk_frozen BK231.out 0; have hfz86_1 := blk_frozen BK231.out 1; have hfz86_2 := blk_frozen BK231.out 2; have hfz86_3 := blk_frozen BK231.out 3; have hfz86_4 := blk_frozen BK231.out 4; have hfz86_5 := blk_frozen BK231.out 5) | (go_at_call 34; (with_reducible refine (impl_Refines.calls kj48 t204 t205 t206 t207 _ _ t208 t211 t222 t223 t224 t225 _ _ t226 t229 true _ ?side1 ?side2 ?side3 ?side4 A73.out).mono ?_); (case side1 => repeat (first | exact (Kd.R_reads' HO_214004.out).2.2 | (with_reducible refine Kd.C_alloc ?_ _) | (with_reducible refine Kd.C_drewN ?_ _) | (with_reducible refine Kd.C_drew ?_))); (case side2 => exact (Kd.R_reads' HO_214004.out).2.1); (case side3 => repeat (first | exact (Kd.R_reads' HO_232004.out).2.2 | (with_reducible refine Kd.C_alloc ?_ _) | (with_reducible refine Kd.C_drewN ?_ _) | (with_reducible refine Kd.C_drew ?_))); (case side4 => exact (Kd.R_reads' HO_232004.out).2.1); rintro e w87 ⟨rfl, hb⟩; have n0_ := Aside0.mk (Kd.R_below (by exact HO_213004.out) hb); have n1_ := Aside0.mk (Kd.R_below (by exact HO_214004.out) hb); have n2_ := Aside0.mk (Kd.R_below (by exact HO_231004.out) hb); have n3_ := Aside0.mk (Kd.R_below (by exact HO_232004.out) hb); have n4_ := Aside0.mk (blk_below (g := gb212) (o := .cells #[.int .i64 t196, .bool t197, .int .i64 t198, .int .u64 t199, .slice Ao14 t200.length co14, .int .i64 t203] 53 (0, 0)) (by exact BK212.out) hb); have n5_ := Aside0.mk (blk_below (g := gb213) (o := .cells #[.int .i64 t204, .bool t205, .int .i64 t206, .int .u64 t207, .slice Ao16 t208.length co16, .int .i64 t211] 53 (0, 0)) (by exact BK213.out) hb); have n6_ := Aside0.mk (blk_below (g := gb230) (o := .cells #[.int .i64 t214, .bool t215, .int .i64 t216, .int .u64 t217, .slice Ao24 t218.length co24, .int .i64 t221] 53 (0, 0)) (by exact BK230.out) hb); have n7_ := Aside0.mk (blk_below (g := gb231) (o := .cells #[.int .i64 t222, .bool t223, .int .i64 t224, .int .u64 t225, .slice Ao28 t226.length co28, .int .i64 t229] 53 (0, 0)) (by exact BK231.out) hb); have n8_ := Aside0.mk (below_step (by repeat (first | (with_reducible first | exact HB.out | apply below_alloc | apply pw_below_drewN | apply below_drew1 | refine below_set ?_ GE212.out | refine below_set ?_ GE213.out | refine below_set ?_ GE230.out | refine below_set ?_ GE231.out) | exact HB.out)) hb); clear HO_213004; clear HO_214004; clear HO_231004; clear HO_232004; clear BK212; clear BK213; clear BK230; clear BK231; clear HB; have HO_213004 := n0_; have HO_214004 := n1_; have HO_231004 := n2_; have HO_232004 := n3_; have BK212 := n4_; have BK213 := n5_; have BK230 := n6_; have BK231 := n7_; have HB := n8_; clear n0_ n1_ n2_ n3_ n4_ n5_ n6_ n7_ n8_; (try clear hb); (try clear hb2); (try clear hk); (try clear hi); have hcz88_0 : w87.cell? ⟨gb212, 0, none⟩ = some (.int .i64 t196) := (blk_cell BK212.out 0).trans rfl; have hcz88_1 : w87.cell? ⟨gb212, 1, none⟩ = some (.bool t197) := (blk_cell BK212.out 1).trans rfl; have hcz88_2 : w87.cell? ⟨gb212, 2, none⟩ = some (.int .i64 t198) := (blk_cell BK212.out 2).trans rfl; have hcz88_3 : w87.cell? ⟨gb212, 3, none⟩ = some (.int .u64 t199) := (blk_cell BK212.out 3).trans rfl; have hcz88_4 : w87.cell? ⟨gb212, 4, none⟩ = some (.slice Ao14 t200.length co14) := (blk_cell BK212.out 4).trans rfl; have hcz88_5 : w87.cell? ⟨gb212, 5, none⟩ = some (.int .i64 t203) := (blk_cell BK212.out 5).trans rfl; have hfz88_0 := blk_frozen BK212.out 0; have hfz88_1 := blk_frozen BK212.out 1; have hfz88_2 := blk_frozen BK212.out 2; have hfz88_3 := blk_frozen BK212.out 3; have hfz88_4 := blk_frozen BK212.out 4; have hfz88_5 := blk_frozen BK212.out 5; have hcz89_0 : w87.cell? ⟨gb231, 0, none⟩ = some (.int .i64 t222) := (blk_cell BK231.out 0).trans rfl; have hcz89_1 : w87.cell? ⟨gb231, 1, none⟩ = some (.bool t223) := (blk_cell BK231.out 1).trans rfl; have hcz89_2 : w87.cell? ⟨gb231, 2, none⟩ = some (.int .i64 t224) := (blk_cell BK231.out 2).trans rfl; have hcz89_3 : w87.cell? ⟨gb231, 3, none⟩ = some (.int .u64 t225) := (blk_cell BK231.out 3).trans rfl; have hcz89_4 : w87.cell? ⟨gb231, 4, none⟩ = some (.slice Ao28 t226.length co28) := (blk_cell BK231.out 4).trans rfl; have hcz89_5 : w87.cell? ⟨gb231, 5, none⟩ = some (.int .i64 t229) := (blk_cell BK231.out 5).trans rfl; have hfz89_0 := blk_frozen BK231.out 0; have hfz89_1 := blk_frozen BK231.out 1; have hfz89_2 := blk_frozen BK231.out 2; have hfz89_3 := blk_frozen BK231.out 3; have hfz89_4 := blk_frozen BK231.out 4; have hfz89_5 := blk_frozen BK231.out 5) | (go_at_call 34; (with_reducible refine (impl_Refines.calls kj48 t196 t197 t198 t199 _ _ t200 t203 t222 t223 t224 t225 _ _ t226 t229 t238 _ ?side1 ?side2 ?side3 ?side4 A75.out).mono ?_); (case side1 => repeat (first | exact (Kd.R_reads' HO_213004.out).2.2 | (with_reducible refine Kd.C_alloc ?_ _) | (with_reducible refine Kd.C_drewN ?_ _) | (with_reducible refine Kd.C_drew ?_))); (case side2 => exact (Kd.R_reads' HO_213004.out).2.1); (case side3 => repeat (first | exact (Kd.R_reads' HO_232004.out).2.2 | (with_reducible refine Kd.C_alloc ?_ _) | (with_reducible refine Kd.C_drewN ?_ _) | (with_reducible refine Kd.C_drew ?_))); (case side4 => exact (Kd.R_reads' HO_232004.out).2.1); rintro e w90 ⟨rfl, hb⟩; have n0_ := Aside0.mk (Kd.R_below (by exact HO_213004.out) hb); have n1_ := Aside0.mk (Kd.R_below (by exact HO_214004.out) hb); have n2_ := Aside0.mk (Kd.R_below (by exact HO_231004.out) hb); have n3_ := Aside0.mk (Kd.R_below (by exact HO_232004.out) hb); have n4_ := Aside0.mk (blk_below (g := gb212) (o := .cells #[.int .i64 t196, .bool t197, .int .i64 t198, .int .u64 t199, .slice Ao14 t200.length co14, .int .i64 t203] 53 (0, 0)) (by exact BK212.out) hb); have n5_ := Aside0.mk (blk_below (g := gb213) (o := .cells #[.int .i64 t204, .bool t205, .int .i64 t206, .int .u64 t207, .slice Ao16 t208.length co16, .int .i64 t211] 53 (0, 0)) (by exact BK213.out) hb); have n6_ := Aside0.mk (blk_below (g := gb230) (o := .cells #[.int .i64 t214, .bool t215, .int .i64 t216, .int .u64 t217, .slice Ao24 t218.length co24, .int .i64 t221] 53 (0, 0)) (by exact BK230.out) hb); have n7_ := Aside0.mk (blk_below (g := gb231) (o := .cells #[.int .i64 t222, .bool t223, .int .i64 t224, .int .u64 t225, .slice Ao28 t226.length co28, .int .i64 t229] 53 (0, 0)) (by exact BK231.out) hb); have n8_ := Aside0.mk (below_step (by repeat (first | (with_reducible first | exact HB.out | apply below_alloc | apply pw_below_drewN | apply below_drew1 | refine below_set ?_ GE212.out | refine below_set ?_ GE213.out | refine below_set ?_ GE230.out | refine below_set ?_ GE231.out) | exact HB.out)) hb); clear HO_213004; clear HO_214004; clear HO_231004; clear HO_232004; clear BK212; clear BK213; clear BK230; clear BK231; clear HB; have HO_213004 := n0_; have HO_214004 := n1_; have HO_231004 := n2_; have HO_232004 := n3_; have BK212 := n4_; have BK213 := n5_; have BK230 := n6_; have BK231 := n7_; have HB := n8_; clear n0_ n1_ n2_ n3_ n4_ n5_ n6_ n7_ n8_; (try clear hb); (try clear hb2); (try clear hk); (try clear hi)))
             go_meet
             case rel => exact ⟨_, (!t238), (by first | rfl | (simp; done) | (simp [*]; done)), H', ⟨by have := HJ2.out; have := HJ7.out; have := HJ48.out; first | omega | exact Nat.le_refl _⟩, ⟨by exact HO_213004.out⟩, ⟨by exact HO_214004.out⟩, ⟨by exact HO_231004.out⟩, ⟨by exact HO_232004.out⟩, ⟨by exact BK212.out⟩, ⟨by exact BK213.out⟩, ⟨by exact BK230.out⟩, ⟨by exact BK231.out⟩, ⟨by repeat (first | (with_reducible first | exact HB.out | apply below_alloc | apply pw_below_drewN | apply below_drew1 | refine below_set ?_ GE212.out | refine below_set ?_ GE213.out | refine below_set ?_ GE230.out | refine below_set ?_ GE231.out) | exact HB.out)⟩⟩
            ·replace c74 := Bool.eq_false_iff.mpr c74
             subst c74
             have H1 : (laws_FnRefines.j3 kj48 false t196 t197 t198 t199 t200 t203) = some r := by rw [if_neg (show ¬ (false = true) by decide)] at H; exact H
             clear H
             have H := H1
             clear H1
             have H' := Aside0.mk H
             clear H
             have hnb91 := NB212_213.out
             have hnc91 := NB213_212.out
             have hnb92 := NB212_230.out
             have hnc92 := NB230_212.out
             have hnb93 := NB212_231.out
             have hnc93 := NB231_212.out
             have hcz94_0 : wc.cell? ⟨gb212, 0, none⟩ = some (.int .i64 t196) := (blk_cell BK212.out 0).trans rfl
             have hcz94_1 : wc.cell? ⟨gb212, 1, none⟩ = some (.bool t197) := (blk_cell BK212.out 1).trans rfl
             have hcz94_2 : wc.cell? ⟨gb212, 2, none⟩ = some (.int .i64 t198) := (blk_cell BK212.out 2).trans rfl
             have hcz94_3 : wc.cell? ⟨gb212, 3, none⟩ = some (.int .u64 t199) := (blk_cell BK212.out 3).trans rfl
             have hcz94_4 : wc.cell? ⟨gb212, 4, none⟩ = some (.slice Ao14 t200.length co14) := (blk_cell BK212.out 4).trans rfl
             have hcz94_5 : wc.cell? ⟨gb212, 5, none⟩ = some (.int .i64 t203) := (blk_cell BK212.out 5).trans rfl
             have hfz94_0 := blk_frozen BK212.out 0
             have hfz94_1 := blk_frozen BK212.out 1
             have hfz94_2 := blk_frozen BK212.out 2
             have hfz94_3 := blk_frozen BK212.out 3
             have hfz94_4 := blk_frozen BK212.out 4
             have hfz94_5 := blk_frozen BK212.out 5
             have hnb95 := NB213_230.out
             have hnc95 := NB230_213.out
             have hnb96 := NB213_231.out
             have hnc96 := NB231_213.out
             have hcz97_0 : wc.cell? ⟨gb213, 0, none⟩ = some (.int .i64 t204) := (blk_cell BK213.out 0).trans rfl
             have hcz97_1 : wc.cell? ⟨gb213, 1, none⟩ = some (.bool t205) := (blk_cell BK213.out 1).trans rfl
             have hcz97_2 : wc.cell? ⟨gb213, 2, none⟩ = some (.int .i64 t206) := (blk_cell BK213.out 2).trans rfl
             have hcz97_3 : wc.cell? ⟨gb213, 3, none⟩ = some (.int .u64 t207) := (blk_cell BK213.out 3).trans rfl
             have hcz97_4 : wc.cell? ⟨gb213, 4, none⟩ = some (.slice Ao16 t208.length co16) := (blk_cell BK213.out 4).trans rfl
             have hcz97_5 : wc.cell? ⟨gb213, 5, none⟩ = some (.int .i64 t211) := (blk_cell BK213.out 5).trans rfl
             have hfz97_0 := blk_frozen BK213.out 0
             have hfz97_1 := blk_frozen BK213.out 1
             have hfz97_2 := blk_frozen BK213.out 2
             have hfz97_3 := blk_frozen BK213.out 3
             have hfz97_4 := blk_frozen BK213.out 4
             have hfz97_5 := blk_frozen BK213.out 5
             go_wp2_with (first | (go_at_call 34; (with_reducible refine (impl_Refines.calls kj48 t196 t197 t198 t199 _ _ t200 t203 t204 t205 t206 t207 _ _ t208 t211 true _ ?side1 ?side2 ?side3 ?side4 A71.out).mono ?_); (case side1 => repeat (first | exact (Kd.R_reads' HO_213004.out).2.2 | (with_reducible refine Kd.C_alloc ?_ _) | (with_reducible refine Kd.C_drewN ?_ _) | (with_reducible refine Kd.C_drew ?_))); (case side2 => exact (Kd.R_reads' HO_213004.out).2.1); (case side3 => repeat (first | exact (Kd.R_reads' HO_214004.out).2.2 | (with_reducible refine Kd.C_alloc ?_ _) | (with_reducible refine Kd.C_drewN ?_ _) | (with_reducible refine Kd.C_drew ?_))); (case side4 => exact (Kd.R_reads' HO_214004.out).2.1); rintro e w98 ⟨rfl, hb⟩; have n0_ := Aside0.mk (Kd.R_below (by exact HO_213004.out) hb); have n1_ := Aside0.mk (Kd.R_below (by exact HO_214004.out) hb); have n2_ := Aside0.mk (Kd.R_below (by exact HO_231004.out) hb); have n3_ := Aside0.mk (Kd.R_below (by exact HO_232004.out) hb); have n4_ := Aside0.mk (blk_below (g := gb212) (o := .cells #[.int .i64 t196, .bool t197, .int .i64 t198, .int .u64 t199, .slice Ao14 t200.length co14, .int .i64 t203] 53 (0, 0)) (by exact BK212.out) hb); have n5_ := Aside0.mk (blk_below (g := gb213) (o := .cells #[.int .i64 t204, .bool t205, .int .i64 t206, .int .u64 t207, .slice Ao16 t208.length co16, .int .i64 t211] 53 (0, 0)) (by exact BK213.out) hb); have n6_ := Aside0.mk (blk_below (g := gb230) (o := .cells #[.int .i64 t214, .bool t215, .int .i64 t216, .int .u64 t217, .slice Ao24 t218.length co24, .int .i64 t221] 53 (0, 0)) (by exact BK230.out) hb); have n7_ := Aside0.mk (blk_below (g := gb231) (o := .cells #[.int .i64 t222, .bool t223, .int .i64 t224, .int .u64 t225, .slice Ao28 t226.length co28, .int .i64 t229] 53 (0, 0)) (by exact BK231.out) hb); have n8_ := Aside0.mk (below_step (by repeat (first | (with_reducible first | exact HB.out | apply below_alloc | apply pw_below_drewN | apply below_drew1 | refine below_set ?_ GE212.out | refine below_set ?_ GE213.out | refine below_set ?_ GE230.out | refine below_set ?_ GE231.out) | exact HB.out)) hb); clear HO_213004; clear HO_214004; clear HO_231004; clear HO_232004; clear BK212; clear BK213; clear BK230; clear BK231; clear HB; have HO_213004 := n0_; have HO_214004 := n1_; have HO_231004 := n2_; have HO_232004 := n3_; have BK212 := n4_; have BK213 := n5_; have BK230 := n6_; have BK231 := n7_; have HB := n8_; clear n0_ n1_ n2_ n3_ n4_ n5_ n6_ n7_ n8_; (try clear hb); (try clear hb2); (try clear hk); (try clear hi); have hcz99_0 : w98.cell? ⟨gb213, 0, none⟩ = some (.int .i64 t204) := (blk_cell BK213.out 0).trans rfl; have hcz99_1 : w98.cell? ⟨gb213, 1, none⟩ = some (.bool t205) := (blk_cell BK213.out 1).trans rfl; have hcz99_2 : w98.cell? ⟨gb213, 2, none⟩ = some (.int .i64 t206) := (blk_cell BK213.out 2).trans rfl; have hcz99_3 : w98.cell? ⟨gb213, 3, none⟩ = some (.int .u64 t207) := (blk_cell BK213.out 3).trans rfl; have hcz99_4 : w98.cell? ⟨gb213, 4, none⟩ = some (.slice Ao16 t208.length co16) := (blk_cell BK213.out 4).trans rfl; have hcz99_5 : w98.cell? ⟨gb213, 5, none⟩ = some (.int .i64 t211) := (blk_cell BK213.out 5).trans rfl; have hfz99_0 := blk_frozen BK213.out 0; have hfz99_1 := blk_frozen BK213.out 1; have hfz99_2 := blk_frozen BK213.out 2; have hfz99_3 := blk_frozen BK213.out 3; have hfz99_4 := blk_frozen BK213.out 4; have hfz99_5 := blk_frozen BK213.out 5; have hnb100 := NB231_230.out; have hnc100 := NB230_231.out; have hcz101_0 : w98.cell? ⟨gb231, 0, none⟩ = some (.int .i64 t222) := (blk_cell BK231.out 0).trans rfl; have hcz101_1 : w98.cell? ⟨gb231, 1, none⟩ = some (.bool t223) := (blk_cell BK231.out 1).trans rfl; have hcz101_2 : w98.cell? ⟨gb231, 2, none⟩ = some (.int .i64 t224) := (blk_cell BK231.out 2).trans rfl; have hcz101_3 : w98.cell? ⟨gb231, 3, none⟩ = some (.int .u64 t225) := (blk_cell BK231.out 3).trans rfl; have hcz101_4 : w98.cell? ⟨gb231, 4, none⟩ = some (.slice Ao28 t226.length co28) := (blk_cell BK231.out 4).trans rfl; have hcz101_5 : w98.cell? ⟨gb231, 5, none⟩ = some (.int .i64 t229) := (blk_cell BK231.out 5).trans rfl; have hfz101_0 := blk_frozen BK231.out 0; have hfz101_1 := blk_frozen BK231.out 1; have hfz101_2 := blk_frozen BK231.out 2; have hfz101_3 := blk_frozen BK231.out 3; have hfz101_4 := blk_frozen BK231.out 4; have hfz101_5 := blk_frozen BK231.out 5) | (go_at_call 34; (with_reducible refine (impl_Refines.calls kj48 t204 t205 t206 t207 _ _ t208 t211 t222 t223 t224 t225 _ _ t226 t229 false _ ?side1 ?side2 ?side3 ?side4 A73.out).mono ?_); (case side1 => repeat (first | exact (Kd.R_reads' HO_214004.out).2.2 | (with_reducible refine Kd.C_alloc ?_ _) | (with_reducible refine Kd.C_drewN ?_ _) | (with_reducible refine Kd.C_drew ?_))); (case side2 => exact (Kd.R_reads' HO_214004.out).2.1); (case side3 => repeat (first | exact (Kd.R_reads' HO_232004.out).2.2 | (with_reducible refine Kd.C_alloc ?_ _) | (with_reducible refine Kd.C_drewN ?_ _) | (with_reducible refine Kd.C_drew ?_))); (case side4 => exact (Kd.R_reads' HO_232004.out).2.1); rintro e w102 ⟨rfl, hb⟩; have n0_ := Aside0.mk (Kd.R_below (by exact HO_213004.out) hb); have n1_ := Aside0.mk (Kd.R_below (by exact HO_214004.out) hb); have n2_ := Aside0.mk (Kd.R_below (by exact HO_231004.out) hb); have n3_ := Aside0.mk (Kd.R_below (by exact HO_232004.out) hb); have n4_ := Aside0.mk (blk_below (g := gb212) (o := .cells #[.int .i64 t196, .bool t197, .int .i64 t198, .int .u64 t199, .slice Ao14 t200.length co14, .int .i64 t203] 53 (0, 0)) (by exact BK212.out) hb); have n5_ := Aside0.mk (blk_below (g := gb213) (o := .cells #[.int .i64 t204, .bool t205, .int .i64 t206, .int .u64 t207, .slice Ao16 t208.length co16, .int .i64 t211] 53 (0, 0)) (by exact BK213.out) hb); have n6_ := Aside0.mk (blk_below (g := gb230) (o := .cells #[.int .i64 t214, .bool t215, .int .i64 t216, .int .u64 t217, .slice Ao24 t218.length co24, .int .i64 t221] 53 (0, 0)) (by exact BK230.out) hb); have n7_ := Aside0.mk (blk_below (g := gb231) (o := .cells #[.int .i64 t222, .bool t223, .int .i64 t224, .int .u64 t225, .slice Ao28 t226.length co28, .int .i64 t229] 53 (0, 0)) (by exact BK231.out) hb); have n8_ := Aside0.mk (below_step (by repeat (first | (with_reducible first | exact HB.out | apply below_alloc | apply pw_below_drewN | apply below_drew1 | refine below_set ?_ GE212.out | refine below_set ?_ GE213.out | refine below_set ?_ GE230.out | refine below_set ?_ GE231.out) | exact HB.out)) hb); clear HO_213004; clear HO_214004; clear HO_231004; clear HO_232004; clear BK212; clear BK213; clear BK230; clear BK231; clear HB; have HO_213004 := n0_; have HO_214004 := n1_; have HO_231004 := n2_; have HO_232004 := n3_; have BK212 := n4_; have BK213 := n5_; have BK230 := n6_; have BK231 := n7_; have HB := n8_; clear n0_ n1_ n2_ n3_ n4_ n5_ n6_ n7_ n8_; (try clear hb); (try clear hb2); (try clear hk); (try clear hi)))
             go_meet
             case rel => exact ⟨_, (false), (by first | rfl | (simp; done) | (simp [*]; done)), H', ⟨by have := HJ2.out; have := HJ7.out; have := HJ48.out; first | omega | exact Nat.le_refl _⟩, ⟨by exact HO_213004.out⟩, ⟨by exact HO_214004.out⟩, ⟨by exact HO_231004.out⟩, ⟨by exact HO_232004.out⟩, ⟨by exact BK212.out⟩, ⟨by exact BK213.out⟩, ⟨by exact BK230.out⟩, ⟨by exact BK231.out⟩, ⟨by repeat (first | (with_reducible first | exact HB.out | apply below_alloc | apply pw_below_drewN | apply below_drew1 | refine below_set ?_ GE212.out | refine below_set ?_ GE213.out | refine below_set ?_ GE230.out | refine below_set ?_ GE231.out) | exact HB.out)⟩⟩
           ·replace c72 := Bool.eq_false_iff.mpr c72
            subst c72
            have H1 : (laws_FnRefines.j3 kj48 false t196 t197 t198 t199 t200 t203) = some r := by rw [if_neg (show ¬ (false = true) by decide)] at H; exact H
            clear H
            have H := H1
            clear H1
            have H' := Aside0.mk H
            clear H
            have hnb103 := NB212_213.out
            have hnc103 := NB213_212.out
            have hnb104 := NB212_230.out
            have hnc104 := NB230_212.out
            have hnb105 := NB212_231.out
            have hnc105 := NB231_212.out
            have hcz106_0 : wc.cell? ⟨gb212, 0, none⟩ = some (.int .i64 t196) := (blk_cell BK212.out 0).trans rfl
            have hcz106_1 : wc.cell? ⟨gb212, 1, none⟩ = some (.bool t197) := (blk_cell BK212.out 1).trans rfl
            have hcz106_2 : wc.cell? ⟨gb212, 2, none⟩ = some (.int .i64 t198) := (blk_cell BK212.out 2).trans rfl
            have hcz106_3 : wc.cell? ⟨gb212, 3, none⟩ = some (.int .u64 t199) := (blk_cell BK212.out 3).trans rfl
            have hcz106_4 : wc.cell? ⟨gb212, 4, none⟩ = some (.slice Ao14 t200.length co14) := (blk_cell BK212.out 4).trans rfl
            have hcz106_5 : wc.cell? ⟨gb212, 5, none⟩ = some (.int .i64 t203) := (blk_cell BK212.out 5).trans rfl
            have hfz106_0 := blk_frozen BK212.out 0
            have hfz106_1 := blk_frozen BK212.out 1
            have hfz106_2 := blk_frozen BK212.out 2
            have hfz106_3 := blk_frozen BK212.out 3
            have hfz106_4 := blk_frozen BK212.out 4
            have hfz106_5 := blk_frozen BK212.out 5
            have hnb107 := NB213_230.out
            have hnc107 := NB230_213.out
            have hnb108 := NB213_231.out
            have hnc108 := NB231_213.out
            have hcz109_0 : wc.cell? ⟨gb213, 0, none⟩ = some (.int .i64 t204) := (blk_cell BK213.out 0).trans rfl
            have hcz109_1 : wc.cell? ⟨gb213, 1, none⟩ = some (.bool t205) := (blk_cell BK213.out 1).trans rfl
            have hcz109_2 : wc.cell? ⟨gb213, 2, none⟩ = some (.int .i64 t206) := (blk_cell BK213.out 2).trans rfl
            have hcz109_3 : wc.cell? ⟨gb213, 3, none⟩ = some (.int .u64 t207) := (blk_cell BK213.out 3).trans rfl
            have hcz109_4 : wc.cell? ⟨gb213, 4, none⟩ = some (.slice Ao16 t208.length co16) := (blk_cell BK213.out 4).trans rfl
            have hcz109_5 : wc.cell? ⟨gb213, 5, none⟩ = some (.int .i64 t211) := (blk_cell BK213.out 5).trans rfl
            have hfz109_0 := blk_frozen BK213.out 0
            have hfz109_1 := blk_frozen BK213.out 1
            have hfz109_2 := blk_frozen BK213.out 2
            have hfz109_3 := blk_frozen BK213.out 3
            have hfz109_4 := blk_frozen BK213.out 4
            have hfz109_5 := blk_frozen BK213.out 5
            go_wp2_with (first | (go_at_call 34; (with_reducible refine (impl_Refines.calls kj48 t196 t197 t198 t199 _ _ t200 t203 t204 t205 t206 t207 _ _ t208 t211 false _ ?side1 ?side2 ?side3 ?side4 A71.out).mono ?_); (case side1 => repeat (first | exact (Kd.R_reads' HO_213004.out).2.2 | (with_reducible refine Kd.C_alloc ?_ _) | (with_reducible refine Kd.C_drewN ?_ _) | (with_reducible refine Kd.C_drew ?_))); (case side2 => exact (Kd.R_reads' HO_213004.out).2.1); (case side3 => repeat (first | exact (Kd.R_reads' HO_214004.out).2.2 | (with_reducible refine Kd.C_alloc ?_ _) | (with_reducible refine Kd.C_drewN ?_ _) | (with_reducible refine Kd.C_drew ?_))); (case side4 => exact (Kd.R_reads' HO_214004.out).2.1); rintro e w110 ⟨rfl, hb⟩; have n0_ := Aside0.mk (Kd.R_below (by exact HO_213004.out) hb); have n1_ := Aside0.mk (Kd.R_below (by exact HO_214004.out) hb); have n2_ := Aside0.mk (Kd.R_below (by exact HO_231004.out) hb); have n3_ := Aside0.mk (Kd.R_below (by exact HO_232004.out) hb); have n4_ := Aside0.mk (blk_below (g := gb212) (o := .cells #[.int .i64 t196, .bool t197, .int .i64 t198, .int .u64 t199, .slice Ao14 t200.length co14, .int .i64 t203] 53 (0, 0)) (by exact BK212.out) hb); have n5_ := Aside0.mk (blk_below (g := gb213) (o := .cells #[.int .i64 t204, .bool t205, .int .i64 t206, .int .u64 t207, .slice Ao16 t208.length co16, .int .i64 t211] 53 (0, 0)) (by exact BK213.out) hb); have n6_ := Aside0.mk (blk_below (g := gb230) (o := .cells #[.int .i64 t214, .bool t215, .int .i64 t216, .int .u64 t217, .slice Ao24 t218.length co24, .int .i64 t221] 53 (0, 0)) (by exact BK230.out) hb); have n7_ := Aside0.mk (blk_below (g := gb231) (o := .cells #[.int .i64 t222, .bool t223, .int .i64 t224, .int .u64 t225, .slice Ao28 t226.length co28, .int .i64 t229] 53 (0, 0)) (by exact BK231.out) hb); have n8_ := Aside0.mk (below_step (by repeat (first | (with_reducible first | exact HB.out | apply below_alloc | apply pw_below_drewN | apply below_drew1 | refine below_set ?_ GE212.out | refine below_set ?_ GE213.out | refine below_set ?_ GE230.out | refine below_set ?_ GE231.out) | exact HB.out)) hb); clear HO_213004; clear HO_214004; clear HO_231004; clear HO_232004; clear BK212; clear BK213; clear BK230; clear BK231; clear HB; have HO_213004 := n0_; have HO_214004 := n1_; have HO_231004 := n2_; have HO_232004 := n3_; have BK212 := n4_; have BK213 := n5_; have BK230 := n6_; have BK231 := n7_; have HB := n8_; clear n0_ n1_ n2_ n3_ n4_ n5_ n6_ n7_ n8_; (try clear hb); (try clear hb2); (try clear hk); (try clear hi)))
            go_meet
            case rel => exact ⟨_, (false), (by first | rfl | (simp; done) | (simp [*]; done)), H', ⟨by have := HJ2.out; have := HJ7.out; have := HJ48.out; first | omega | exact Nat.le_refl _⟩, ⟨by exact HO_213004.out⟩, ⟨by exact HO_214004.out⟩, ⟨by exact HO_231004.out⟩, ⟨by exact HO_232004.out⟩, ⟨by exact BK212.out⟩, ⟨by exact BK213.out⟩, ⟨by exact BK230.out⟩, ⟨by exact BK231.out⟩, ⟨by repeat (first | (with_reducible first | exact HB.out | apply below_alloc | apply pw_below_drewN | apply below_drew1 | refine below_set ?_ GE212.out | refine below_set ?_ GE213.out | refine below_set ?_ GE230.out | refine below_set ?_ GE231.out) | exact HB.out)⟩⟩
          ·replace c70 := Bool.eq_false_iff.mpr c70
           subst c70
           have H1 : (laws_FnRefines.j3 kj48 false t196 t197 t198 t199 t200 t203) = some r := by rw [if_neg (show ¬ (false = true) by decide)] at H; exact H
           clear H
           have H := H1
           clear H1
           have H' := Aside0.mk H
           clear H
           go_wp2
           go_meet
           case rel => exact ⟨_, (false), (by first | rfl | (simp; done) | (simp [*]; done)), H', ⟨by have := HJ2.out; have := HJ7.out; have := HJ48.out; first | omega | exact Nat.le_refl _⟩, ⟨by exact HO_213004.out⟩, ⟨by exact HO_214004.out⟩, ⟨by exact HO_231004.out⟩, ⟨by exact HO_232004.out⟩, ⟨by exact BK212.out⟩, ⟨by exact BK213.out⟩, ⟨by exact BK230.out⟩, ⟨by exact BK231.out⟩, ⟨by repeat (first | (with_reducible first | exact HB.out | apply below_alloc | apply pw_below_drewN | apply below_drew1 | refine below_set ?_ GE212.out | refine below_set ?_ GE213.out | refine below_set ?_ GE230.out | refine below_set ?_ GE231.out) | exact HB.out)⟩⟩
         case rest =>
          clear HC69
          try clear c1
          try clear p2
          try clear c3
          try clear c4
          try clear c5
          try clear c6
          try clear c7
          try clear c8
          try clear c9
          try clear c10
          try clear c30
          try clear c32
          try clear c34
          try clear c35
          try clear c48
          try clear c50
          try clear c50b0
          try clear c50b1
          try clear c51
          try clear c52
          try clear c53
          try clear c54
          try clear c56
          try clear c56b0
          try clear c56b1
          try clear c57
          try clear c58
          try clear c59
          try clear c61
          try clear c62
          try clear c63
          try clear c65
          try clear c66
          try clear c67
          try clear c70
          try clear c72
          try clear c74
          try clear c76
          try clear c77
          try clear c78
          try clear c80
          try clear c81
          try clear c85
          try clear c91
          try clear c92
          try clear c93
          try clear c95
          try clear c96
          try clear c100
          try clear c103
          try clear c104
          try clear c105
          try clear c107
          try clear c108
          try clear hcz101_0
          try clear hcz101_1
          try clear hcz101_2
          try clear hcz101_3
          try clear hcz101_4
          try clear hcz101_5
          try clear hcz106_0
          try clear hcz106_1
          try clear hcz106_2
          try clear hcz106_3
          try clear hcz106_4
          try clear hcz106_5
          try clear hcz109_0
          try clear hcz109_1
          try clear hcz109_2
          try clear hcz109_3
          try clear hcz109_4
          try clear hcz109_5
          try clear hcz55_0
          try clear hcz55_1
          try clear hcz55_2
          try clear hcz55_3
          try clear hcz55_4
          try clear hcz55_5
          try clear hcz60_0
          try clear hcz60_1
          try clear hcz60_2
          try clear hcz60_3
          try clear hcz60_4
          try clear hcz60_5
          try clear hcz64_0
          try clear hcz64_1
          try clear hcz64_2
          try clear hcz64_3
          try clear hcz64_4
          try clear hcz64_5
          try clear hcz68_0
          try clear hcz68_1
          try clear hcz68_2
          try clear hcz68_3
          try clear hcz68_4
          try clear hcz68_5
          try clear hcz79_0
          try clear hcz79_1
          try clear hcz79_2
          try clear hcz79_3
          try clear hcz79_4
          try clear hcz79_5
          try clear hcz82_0
          try clear hcz82_1
          try clear hcz82_2
          try clear hcz82_3
          try clear hcz82_4
          try clear hcz82_5
          try clear hcz84_0
          try clear hcz84_1
          try clear hcz84_2
          try clear hcz84_3
          try clear hcz84_4
          try clear hcz84_5
          try clear hcz86_0
          try clear hcz86_1
          try clear hcz86_2
          try clear hcz86_3
          try clear hcz86_4
          try clear hcz86_5
          try clear hcz88_0
          try clear hcz88_1
          try clear hcz88_2
          try clear hcz88_3
          try clear hcz88_4
          try clear hcz88_5
          try clear hcz89_0
          try clear hcz89_1
          try clear hcz89_2
          try clear hcz89_3
          try clear hcz89_4
          try clear hcz89_5
          try clear hcz94_0
          try clear hcz94_1
          try clear hcz94_2
          try clear hcz94_3
          try clear hcz94_4
          try clear hcz94_5
          try clear hcz97_0
          try clear hcz97_1
          try clear hcz97_2
          try clear hcz97_3
          try clear hcz97_4
          try clear hcz97_5
          try clear hcz99_0
          try clear hcz99_1
          try clear hcz99_2
          try clear hcz99_3
          try clear hcz99_4
          try clear hcz99_5
          try clear hfz101_0
          try clear hfz101_1
          try clear hfz101_2
          try clear hfz101_3
          try clear hfz101_4
          try clear hfz101_5
          try clear hfz106_0
          try clear hfz106_1
          try clear hfz106_2
          try clear hfz106_3
          try clear hfz106_4
          try clear hfz106_5
          try clear hfz109_0
          try clear hfz109_1
          try clear hfz109_2
          try clear hfz109_3
          try clear hfz109_4
          try clear hfz109_5
          try clear hfz55_0
          try clear hfz55_1
          try clear hfz55_2
          try clear hfz55_3
          try clear hfz55_4
          try clear hfz55_5
          try clear hfz60_0
          try clear hfz60_1
          try clear hfz60_2
          try clear hfz60_3
          try clear hfz60_4
          try clear hfz60_5
          try clear hfz64_0
          try clear hfz64_1
          try clear hfz64_2
          try clear hfz64_3
          try clear hfz64_4
          try clear hfz64_5
          try clear hfz68_0
          try clear hfz68_1
          try clear hfz68_2
          try clear hfz68_3
          try clear hfz68_4
          try clear hfz68_5
          try clear hfz79_0
          try clear hfz79_1
          try clear hfz79_2
          try clear hfz79_3
          try clear hfz79_4
          try clear hfz79_5
          try clear hfz82_0
          try clear hfz82_1
          try clear hfz82_2
          try clear hfz82_3
          try clear hfz82_4
          try clear hfz82_5
          try clear hfz84_0
          try clear hfz84_1
          try clear hfz84_2
          try clear hfz84_3
          try clear hfz84_4
          try clear hfz84_5
          try clear hfz86_0
          try clear hfz86_1
          try clear hfz86_2
          try clear hfz86_3
          try clear hfz86_4
          try clear hfz86_5
          try clear hfz88_0
          try clear hfz88_1
          try clear hfz88_2
          try clear hfz88_3
          try clear hfz88_4
          try clear hfz88_5
          try clear hfz89_0
          try clear hfz89_1
          try clear hfz89_2
          try clear hfz89_3
          try clear hfz89_4
          try clear hfz89_5
          try clear hfz94_0
          try clear hfz94_1
          try clear hfz94_2
          try clear hfz94_3
          try clear hfz94_4
          try clear hfz94_5
          try clear hfz97_0
          try clear hfz97_1
          try clear hfz97_2
          try clear hfz97_3
          try clear hfz97_4
          try clear hfz97_5
          try clear hfz99_0
          try clear hfz99_1
          try clear hfz99_2
          try clear hfz99_3
          try clear hfz99_4
          try clear hfz99_5
          try clear p2
          obtain ⟨kq, x85_68, rfl, HA, HJ68, HO_213004, HO_214004, HO_231004, HO_232004, BK212, BK213, BK230, BK231, HB⟩ := hcut
          cases kq with
          | zero => exact absurd HA.out (by simp [laws_FnRefines.j3])
          | succ kj68 =>
           have H := HA.out
           clear HA
           simp only [laws_FnRefines.j3] at H
           by_cases c111 : x85_68 = true
           ·subst c111
            have H1 : (some false) = some r := by rw [if_pos rfl] at H; exact H
            clear H
            have H := H1
            clear H1
            obtain rfl := Option.some.inj H
            exact absurd hlaw.out (by simp)
           ·replace c111 := Bool.eq_false_iff.mpr c111
            subst c111
            have H1 : (if t196 = 0 then (if t197 = true then (laws_FnRefines.j4 kj68 true t196 t197 t198 t199 t200 t203) else (laws_FnRefines.j4 kj68 (t198 != 0) t196 t197 t198 t199 t200 t203)) else (laws_FnRefines.j4 kj68 true t196 t197 t198 t199 t200 t203)) = some r := by rw [if_neg (show ¬ (false = true) by decide)] at H; exact H
            clear H
            have H := H1
            clear H1
            have HC112 := Aside0.mk H
            clear H
            go_upto_region 10 with (fail)
            go_cut [99] (fun v99 wc => ∃ (kq : Nat) (x99_111 : Bool), v99 = .bool x99_111 ∧ Aside0 (laws_FnRefines.j4 kq x99_111 t196 t197 t198 t199 t200 t203 = some r) ∧ Aside0 (kq ≤ kj68) ∧ Aside0 (Kd.R (Kd.int .u64) 38 wc w.heap.size (fun k_ => some k_ ≠ ((.slice Ao16 t208.length co16) : Value).ownBlock ∧ some k_ ≠ ((.slice Ao24 t218.length co24) : Value).ownBlock ∧ some k_ ≠ ((.slice Ao28 t226.length co28) : Value).ownBlock) (.slice Ao14 t200.length co14) t200) ∧ Aside0 (Kd.R (Kd.int .u64) 38 wc w.heap.size (fun k_ => some k_ ≠ ((.slice Ao14 t200.length co14) : Value).ownBlock ∧ some k_ ≠ ((.slice Ao24 t218.length co24) : Value).ownBlock ∧ some k_ ≠ ((.slice Ao28 t226.length co28) : Value).ownBlock) (.slice Ao16 t208.length co16) t208) ∧ Aside0 (Kd.R (Kd.int .u64) 38 wc w.heap.size (fun k_ => some k_ ≠ ((.slice Ao14 t200.length co14) : Value).ownBlock ∧ some k_ ≠ ((.slice Ao16 t208.length co16) : Value).ownBlock ∧ some k_ ≠ ((.slice Ao28 t226.length co28) : Value).ownBlock) (.slice Ao24 t218.length co24) t218) ∧ Aside0 (Kd.R (Kd.int .u64) 38 wc w.heap.size (fun k_ => some k_ ≠ ((.slice Ao14 t200.length co14) : Value).ownBlock ∧ some k_ ≠ ((.slice Ao16 t208.length co16) : Value).ownBlock ∧ some k_ ≠ ((.slice Ao24 t218.length co24) : Value).ownBlock) (.slice Ao28 t226.length co28) t226) ∧ Aside0 (wc.heap[gb212]? = some (.cells #[.int .i64 t196, .bool t197, .int .i64 t198, .int .u64 t199, (.slice Ao14 t200.length co14), .int .i64 t203] 53 (0, 0))) ∧ Aside0 (wc.heap[gb213]? = some (.cells #[.int .i64 t204, .bool t205, .int .i64 t206, .int .u64 t207, (.slice Ao16 t208.length co16), .int .i64 t211] 53 (0, 0))) ∧ Aside0 (wc.heap[gb230]? = some (.cells #[.int .i64 t214, .bool t215, .int .i64 t216, .int .u64 t217, (.slice Ao24 t218.length co24), .int .i64 t221] 53 (0, 0))) ∧ Aside0 (wc.heap[gb231]? = some (.cells #[.int .i64 t222, .bool t223, .int .i64 t224, .int .u64 t225, (.slice Ao28 t226.length co28), .int .i64 t229] 53 (0, 0))) ∧ Aside0 (Below w.heap.size w wc))
            case first =>
             have H := HC112.out
             clear HC112
             by_cases c113 : t196 = 0
             ·rw [if_pos c113] at H
              have c113b0 : (t196 == 0) = true := beq_iff_eq.mpr c113
              have c113b1 : (t196 != 0) = false := bne_eq_false_iff_eq.mpr c113
              clear c113
              (first | rw [c113b0] | (simp only [i64_w, i32_w]; rw [c113b0]) | skip)
              by_cases c114 : t197 = true
              ·subst c114
               have H1 : (laws_FnRefines.j4 kj68 true t196 true t198 t199 t200 t203) = some r := by rw [if_pos rfl] at H; exact H
               clear H
               have H := H1
               clear H1
               have H' := Aside0.mk H
               clear H
               have hnb115 := NB212_213.out
               have hnc115 := NB213_212.out
               have hnb116 := NB212_230.out
               have hnc116 := NB230_212.out
               have hnb117 := NB212_231.out
               have hnc117 := NB231_212.out
               have hcz118_0 : wc.cell? ⟨gb212, 0, none⟩ = some (.int .i64 t196) := (blk_cell BK212.out 0).trans rfl
               have hcz118_1 : wc.cell? ⟨gb212, 1, none⟩ = some (.bool true) := (blk_cell BK212.out 1).trans rfl
               have hcz118_2 : wc.cell? ⟨gb212, 2, none⟩ = some (.int .i64 t198) := (blk_cell BK212.out 2).trans rfl
               have hcz118_3 : wc.cell? ⟨gb212, 3, none⟩ = some (.int .u64 t199) := (blk_cell BK212.out 3).trans rfl
               have hcz118_4 : wc.cell? ⟨gb212, 4, none⟩ = some (.slice Ao14 t200.length co14) := (blk_cell BK212.out 4).trans rfl
               have hcz118_5 : wc.cell? ⟨gb212, 5, none⟩ = some (.int .i64 t203) := (blk_cell BK212.out 5).trans rfl
               have hfz118_0 := blk_frozen BK212.out 0
               have hfz118_1 := blk_frozen BK212.out 1
               have hfz118_2 := blk_frozen BK212.out 2
               have hfz118_3 := blk_frozen BK212.out 3
               have hfz118_4 := blk_frozen BK212.out 4
               have hfz118_5 := blk_frozen BK212.out 5
               go_wp2
               go_meet
               case rel => exact ⟨_, (true), (by first | rfl | (simp; done) | (simp [*]; done)), H', ⟨by have := HJ2.out; have := HJ7.out; have := HJ48.out; have := HJ68.out; first | omega | exact Nat.le_refl _⟩, ⟨by exact HO_213004.out⟩, ⟨by exact HO_214004.out⟩, ⟨by exact HO_231004.out⟩, ⟨by exact HO_232004.out⟩, ⟨by exact BK212.out⟩, ⟨by exact BK213.out⟩, ⟨by exact BK230.out⟩, ⟨by exact BK231.out⟩, ⟨by repeat (first | (with_reducible first | exact HB.out | apply below_alloc | apply pw_below_drewN | apply below_drew1 | refine below_set ?_ GE212.out | refine below_set ?_ GE213.out | refine below_set ?_ GE230.out | refine below_set ?_ GE231.out) | exact HB.out)⟩⟩
              ·replace c114 := Bool.eq_false_iff.mpr c114
               subst c114
               have H1 : (laws_FnRefines.j4 kj68 (t198 != 0) t196 false t198 t199 t200 t203) = some r := by rw [if_neg (show ¬ (false = true) by decide)] at H; exact H
               clear H
               have H := H1
               clear H1
               have H' := Aside0.mk H
               clear H
               have hnb119 := NB212_213.out
               have hnc119 := NB213_212.out
               have hnb120 := NB212_230.out
               have hnc120 := NB230_212.out
               have hnb121 := NB212_231.out
               have hnc121 := NB231_212.out
               have hcz122_0 : wc.cell? ⟨gb212, 0, none⟩ = some (.int .i64 t196) := (blk_cell BK212.out 0).trans rfl
               have hcz122_1 : wc.cell? ⟨gb212, 1, none⟩ = some (.bool false) := (blk_cell BK212.out 1).trans rfl
               have hcz122_2 : wc.cell? ⟨gb212, 2, none⟩ = some (.int .i64 t198) := (blk_cell BK212.out 2).trans rfl
               have hcz122_3 : wc.cell? ⟨gb212, 3, none⟩ = some (.int .u64 t199) := (blk_cell BK212.out 3).trans rfl
               have hcz122_4 : wc.cell? ⟨gb212, 4, none⟩ = some (.slice Ao14 t200.length co14) := (blk_cell BK212.out 4).trans rfl
               have hcz122_5 : wc.cell? ⟨gb212, 5, none⟩ = some (.int .i64 t203) := (blk_cell BK212.out 5).trans rfl
               have hfz122_0 := blk_frozen BK212.out 0
               have hfz122_1 := blk_frozen BK212.out 1
               have hfz122_2 := blk_frozen BK212.out 2
               have hfz122_3 := blk_frozen BK212.out 3
               have hfz122_4 := blk_frozen BK212.out 4
               have hfz122_5 := blk_frozen BK212.out 5
               go_wp2
               go_meet
               case rel => exact ⟨_, ((t198 != 0)), (by first | rfl | (simp; done) | (simp [*]; done)), H', ⟨by have := HJ2.out; have := HJ7.out; have := HJ48.out; have := HJ68.out; first | omega | exact Nat.le_refl _⟩, ⟨by exact HO_213004.out⟩, ⟨by exact HO_214004.out⟩, ⟨by exact HO_231004.out⟩, ⟨by exact HO_232004.out⟩, ⟨by exact BK212.out⟩, ⟨by exact BK213.out⟩, ⟨by exact BK230.out⟩, ⟨by exact BK231.out⟩, ⟨by repeat (first | (with_reducible first | exact HB.out | apply below_alloc | apply pw_below_drewN | apply below_drew1 | refine below_set ?_ GE212.out | refine below_set ?_ GE213.out | refine below_set ?_ GE230.out | refine below_set ?_ GE231.out) | exact HB.out)⟩⟩
             ·rw [if_neg c113] at H
              have c113b0 : (t196 == 0) = false := beq_eq_false_iff_ne.mpr c113
              have c113b1 : (t196 != 0) = true := bne_iff_ne.mpr c113
              (first | rw [c113b0] | (simp only [i64_w, i32_w]; rw [c113b0]) | skip)
              have H' := Aside0.mk H
              clear H
              have hnb123 := NB212_213.out
              have hnc123 := NB213_212.out
              have hnb124 := NB212_230.out
              have hnc124 := NB230_212.out
              have hnb125 := NB212_231.out
              have hnc125 := NB231_212.out
              have hcz126_0 : wc.cell? ⟨gb212, 0, none⟩ = some (.int .i64 t196) := (blk_cell BK212.out 0).trans rfl
              have hcz126_1 : wc.cell? ⟨gb212, 1, none⟩ = some (.bool t197) := (blk_cell BK212.out 1).trans rfl
              have hcz126_2 : wc.cell? ⟨gb212, 2, none⟩ = some (.int .i64 t198) := (blk_cell BK212.out 2).trans rfl
              have hcz126_3 : wc.cell? ⟨gb212, 3, none⟩ = some (.int .u64 t199) := (blk_cell BK212.out 3).trans rfl
              have hcz126_4 : wc.cell? ⟨gb212, 4, none⟩ = some (.slice Ao14 t200.length co14) := (blk_cell BK212.out 4).trans rfl
              have hcz126_5 : wc.cell? ⟨gb212, 5, none⟩ = some (.int .i64 t203) := (blk_cell BK212.out 5).trans rfl
              have hfz126_0 := blk_frozen BK212.out 0
              have hfz126_1 := blk_frozen BK212.out 1
              have hfz126_2 := blk_frozen BK212.out 2
              have hfz126_3 := blk_frozen BK212.out 3
              have hfz126_4 := blk_frozen BK212.out 4
              have hfz126_5 := blk_frozen BK212.out 5
              go_wp2
              go_meet
              case rel => exact ⟨_, (true), (by first | rfl | (simp; done) | (simp [*]; done)), H', ⟨by have := HJ2.out; have := HJ7.out; have := HJ48.out; have := HJ68.out; first | omega | exact Nat.le_refl _⟩, ⟨by exact HO_213004.out⟩, ⟨by exact HO_214004.out⟩, ⟨by exact HO_231004.out⟩, ⟨by exact HO_232004.out⟩, ⟨by exact BK212.out⟩, ⟨by exact BK213.out⟩, ⟨by exact BK230.out⟩, ⟨by exact BK231.out⟩, ⟨by repeat (first | (with_reducible first | exact HB.out | apply below_alloc | apply pw_below_drewN | apply below_drew1 | refine below_set ?_ GE212.out | refine below_set ?_ GE213.out | refine below_set ?_ GE230.out | refine below_set ?_ GE231.out) | exact HB.out)⟩⟩
            case rest =>
             clear HC112
             try clear c1
             try clear p2
             try clear c3
             try clear c4
             try clear c5
             try clear c6
             try clear c7
             try clear c8
             try clear c9
             try clear c10
             try clear c11
             try clear c12
             try clear c30
             try clear c32
             try clear c34
             try clear c35
             try clear c48
             try clear c50
             try clear c50b0
             try clear c50b1
             try clear c51
             try clear c52
             try clear c53
             try clear c54
             try clear c56
             try clear c56b0
             try clear c56b1
             try clear c57
             try clear c58
             try clear c59
             try clear c61
             try clear c62
             try clear c63
             try clear c65
             try clear c66
             try clear c67
             try clear c70
             try clear c72
             try clear c74
             try clear c76
             try clear c77
             try clear c78
             try clear c80
             try clear c81
             try clear c85
             try clear c91
             try clear c92
             try clear c93
             try clear c95
             try clear c96
             try clear c100
             try clear c103
             try clear c104
             try clear c105
             try clear c107
             try clear c108
             try clear c111
             try clear c113
             try clear c113b0
             try clear c113b1
             try clear c114
             try clear c115
             try clear c116
             try clear c117
             try clear c119
             try clear c120
             try clear c121
             try clear c123
             try clear c124
             try clear c125
             try clear hcz101_0
             try clear hcz101_1
             try clear hcz101_2
             try clear hcz101_3
             try clear hcz101_4
             try clear hcz101_5
             try clear hcz106_0
             try clear hcz106_1
             try clear hcz106_2
             try clear hcz106_3
             try clear hcz106_4
             try clear hcz106_5
             try clear hcz109_0
             try clear hcz109_1
             try clear hcz109_2
             try clear hcz109_3
             try clear hcz109_4
             try clear hcz109_5
             try clear hcz118_0
             try clear hcz118_1
             try clear hcz118_2
             try clear hcz118_3
             try clear hcz118_4
             try clear hcz118_5
             try clear hcz122_0
             try clear hcz122_1
             try clear hcz122_2
             try clear hcz122_3
             try clear hcz122_4
             try clear hcz122_5
             try clear hcz126_0
             try clear hcz126_1
             try clear hcz126_2
             try clear hcz126_3
             try clear hcz126_4
             try clear hcz126_5
             try clear hcz55_0
             try clear hcz55_1
             try clear hcz55_2
             try clear hcz55_3
             try clear hcz55_4
             try clear hcz55_5
             try clear hcz60_0
             try clear hcz60_1
             try clear hcz60_2
             try clear hcz60_3
             try clear hcz60_4
             try clear hcz60_5
             try clear hcz64_0
             try clear hcz64_1
             try clear hcz64_2
             try clear hcz64_3
             try clear hcz64_4
             try clear hcz64_5
             try clear hcz68_0
             try clear hcz68_1
             try clear hcz68_2
             try clear hcz68_3
             try clear hcz68_4
             try clear hcz68_5
             try clear hcz79_0
             try clear hcz79_1
             try clear hcz79_2
             try clear hcz79_3
             try clear hcz79_4
             try clear hcz79_5
             try clear hcz82_0
             try clear hcz82_1
             try clear hcz82_2
             try clear hcz82_3
             try clear hcz82_4
             try clear hcz82_5
             try clear hcz84_0
             try clear hcz84_1
             try clear hcz84_2
             try clear hcz84_3
             try clear hcz84_4
             try clear hcz84_5
             try clear hcz86_0
             try clear hcz86_1
             try clear hcz86_2
             try clear hcz86_3
             try clear hcz86_4
             try clear hcz86_5
             try clear hcz88_0
             try clear hcz88_1
             try clear hcz88_2
             try clear hcz88_3
             try clear hcz88_4
             try clear hcz88_5
             try clear hcz89_0
             try clear hcz89_1
             try clear hcz89_2
             try clear hcz89_3
             try clear hcz89_4
             try clear hcz89_5
             try clear hcz94_0
             try clear hcz94_1
             try clear hcz94_2
             try clear hcz94_3
             try clear hcz94_4
             try clear hcz94_5
             try clear hcz97_0
             try clear hcz97_1
             try clear hcz97_2
             try clear hcz97_3
             try clear hcz97_4
             try clear hcz97_5
             try clear hcz99_0
             try clear hcz99_1
             try clear hcz99_2
             try clear hcz99_3
             try clear hcz99_4
             try clear hcz99_5
             try clear hfz101_0
             try clear hfz101_1
             try clear hfz101_2
             try clear hfz101_3
             try clear hfz101_4
             try clear hfz101_5
             try clear hfz106_0
             try clear hfz106_1
             try clear hfz106_2
             try clear hfz106_3
             try clear hfz106_4
             try clear hfz106_5
             try clear hfz109_0
             try clear hfz109_1
             try clear hfz109_2
             try clear hfz109_3
             try clear hfz109_4
             try clear hfz109_5
             try clear hfz118_0
             try clear hfz118_1
             try clear hfz118_2
             try clear hfz118_3
             try clear hfz118_4
             try clear hfz118_5
             try clear hfz122_0
             try clear hfz122_1
             try clear hfz122_2
             try clear hfz122_3
             try clear hfz122_4
             try clear hfz122_5
             try clear hfz126_0
             try clear hfz126_1
             try clear hfz126_2
             try clear hfz126_3
             try clear hfz126_4
             try clear hfz126_5
             try clear hfz55_0
             try clear hfz55_1
             try clear hfz55_2
             try clear hfz55_3
             try clear hfz55_4
             try clear hfz55_5
             try clear hfz60_0
             try clear hfz60_1
             try clear hfz60_2
             try clear hfz60_3
             try clear hfz60_4
             try clear hfz60_5
             try clear hfz64_0
             try clear hfz64_1
             try clear hfz64_2
             try clear hfz64_3
             try clear hfz64_4
             try clear hfz64_5
             try clear hfz68_0
             try clear hfz68_1
             try clear hfz68_2
             try clear hfz68_3
             try clear hfz68_4
             try clear hfz68_5
             try clear hfz79_0
             try clear hfz79_1
             try clear hfz79_2
             try clear hfz79_3
             try clear hfz79_4
             try clear hfz79_5
             try clear hfz82_0
             try clear hfz82_1
             try clear hfz82_2
             try clear hfz82_3
             try clear hfz82_4
             try clear hfz82_5
             try clear hfz84_0
             try clear hfz84_1
             try clear hfz84_2
             try clear hfz84_3
             try clear hfz84_4
             try clear hfz84_5
             try clear hfz86_0
             try clear hfz86_1
             try clear hfz86_2
             try clear hfz86_3
             try clear hfz86_4
             try clear hfz86_5
             try clear hfz88_0
             try clear hfz88_1
             try clear hfz88_2
             try clear hfz88_3
             try clear hfz88_4
             try clear hfz88_5
             try clear hfz89_0
             try clear hfz89_1
             try clear hfz89_2
             try clear hfz89_3
             try clear hfz89_4
             try clear hfz89_5
             try clear hfz94_0
             try clear hfz94_1
             try clear hfz94_2
             try clear hfz94_3
             try clear hfz94_4
             try clear hfz94_5
             try clear hfz97_0
             try clear hfz97_1
             try clear hfz97_2
             try clear hfz97_3
             try clear hfz97_4
             try clear hfz97_5
             try clear hfz99_0
             try clear hfz99_1
             try clear hfz99_2
             try clear hfz99_3
             try clear hfz99_4
             try clear hfz99_5
             try clear p2
             obtain ⟨kq, x99_111, rfl, HA, HJ111, HO_213004, HO_214004, HO_231004, HO_232004, BK212, BK213, BK230, BK231, HB⟩ := hcut
             cases kq with
             | zero => exact absurd HA.out (by simp [laws_FnRefines.j4])
             | succ kj111 =>
              have H := HA.out
              clear HA
              simp only [laws_FnRefines.j4] at H
              by_cases c127 : x99_111 = true
              ·subst c127
               have H1 : (some true) = some r := by rw [if_pos rfl] at H; exact H
               clear H
               have H := H1
               clear H1
               obtain rfl := Option.some.inj H
               go_wp2
               go_ret
               exact ⟨by first | rfl | (simp [errW_none, errW_some] <;> rfl) | (simp [*, errW_none, errW_some] <;> rfl), by repeat (first | (with_reducible first | exact HB.out | apply below_alloc | apply pw_below_drewN | apply below_drew1 | refine below_set ?_ GE212.out | refine below_set ?_ GE213.out | refine below_set ?_ GE230.out | refine below_set ?_ GE231.out) | exact HB.out)⟩
              ·replace c127 := Bool.eq_false_iff.mpr c127
               subst c127
               have H1 : ((some (([] : List Int) : List Int)).bind fun y240 => (if y240.length + t200.length < 17592186044416 then ((some (y240 ++ t200 : List Int)).bind fun y243 => (if y243.length < 17592186044416 then ((impl_Refines.f kj111 t196 t197 t198 t199 t200 t203 t196 t197 t198 t199 (y243 ++ [5]) t203).bind fun t250 => (if t250 = true then (some false) else ((impl_Refines.f kj111 t196 t197 t198 t199 t200 t203 t196 t197 t198 (IntKind.u64.wrap (t199 + 1)) t200 t203).bind fun t251 => (some (!t251))))) else (none))) else (none))) = some r := by rw [if_neg (show ¬ (false = true) by decide)] at H; exact H
               clear H
               have H := H1
               clear H1
               obtain ⟨y240, hy240⟩ : ∃ y_ : List Int, y_ = (([] : List Int)) := ⟨_, rfl⟩
               replace H : (if y240.length + t200.length < 17592186044416 then ((some (y240 ++ t200 : List Int)).bind fun y243 => (if y243.length < 17592186044416 then ((impl_Refines.f kj111 t196 t197 t198 t199 t200 t203 t196 t197 t198 t199 (y243 ++ [5]) t203).bind fun t250 => (if t250 = true then (some false) else ((impl_Refines.f kj111 t196 t197 t198 t199 t200 t203 t196 t197 t198 (IntKind.u64.wrap (t199 + 1)) t200 t203).bind fun t251 => (some (!t251))))) else (none))) else (none)) = some r := by first | (rw [hy240]; with_reducible exact H) | (have H2_ := (Option.bind_some _ _).symm.trans H; rw [hy240]; with_reducible exact H2_) | (have H2_ := (Option.bind_some _ _).symm.trans H; with_reducible exact H2_) | with_reducible exact H | (rw [hy240]; exact H) | exact H
               have Ny240 := Aside0.mk hy240
               clear hy240
               by_cases c128 : y240.length + t200.length < 17592186044416
               ·rw [if_pos c128] at H
                have LMc128 := Aside0.mk c128
                clear c128
                obtain ⟨y243, hy243⟩ : ∃ y_ : List Int, y_ = (y240 ++ t200) := ⟨_, rfl⟩
                replace H : (if y243.length < 17592186044416 then ((impl_Refines.f kj111 t196 t197 t198 t199 t200 t203 t196 t197 t198 t199 (y243 ++ [5]) t203).bind fun t250 => (if t250 = true then (some false) else ((impl_Refines.f kj111 t196 t197 t198 t199 t200 t203 t196 t197 t198 (IntKind.u64.wrap (t199 + 1)) t200 t203).bind fun t251 => (some (!t251))))) else (none)) = some r := by first | (rw [hy243]; with_reducible exact H) | (have H2_ := (Option.bind_some _ _).symm.trans H; rw [hy243]; with_reducible exact H2_) | (have H2_ := (Option.bind_some _ _).symm.trans H; with_reducible exact H2_) | with_reducible exact H | (rw [hy243]; exact H) | exact H
                have Ny243 := Aside0.mk hy243
                clear hy243
                by_cases c129 : y243.length < 17592186044416
                ·rw [if_pos c129] at H
                 have LMc129 := Aside0.mk c129
                 clear c129
                 obtain ⟨y246, hy246⟩ : ∃ y_ : List Int, y_ = (y243 ++ [5]) := ⟨_, rfl⟩
                 replace H : ((impl_Refines.f kj111 t196 t197 t198 t199 t200 t203 t196 t197 t198 t199 y246 t203).bind fun t250 => (if t250 = true then (some false) else ((impl_Refines.f kj111 t196 t197 t198 t199 t200 t203 t196 t197 t198 (IntKind.u64.wrap (t199 + 1)) t200 t203).bind fun t251 => (some (!t251))))) = some r := by first | (rw [hy246]; with_reducible exact H) | (have H2_ := (Option.bind_some _ _).symm.trans H; rw [hy246]; with_reducible exact H2_) | (have H2_ := (Option.bind_some _ _).symm.trans H; with_reducible exact H2_) | with_reducible exact H | (rw [hy246]; exact H) | exact H
                 have Ny246 := Aside0.mk hy246
                 clear hy246
                 replace H := Option.bind_eq_some_iff.mp H
                 obtain ⟨t250, A1300, H⟩ := H
                 replace H : (if t250 = true then (some false) else ((impl_Refines.f kj111 t196 t197 t198 t199 t200 t203 t196 t197 t198 (IntKind.u64.wrap (t199 + 1)) t200 t203).bind fun t251 => (some (!t251)))) = some r := H
                 have A130 := Aside0.mk A1300
                 clear A1300
                 by_cases c131 : t250 = true
                 ·subst c131
                  have H1 : (some false) = some r := by rw [if_pos rfl] at H; exact H
                  clear H
                  have H := H1
                  clear H1
                  obtain rfl := Option.some.inj H
                  exact absurd hlaw.out (by simp)
                 ·replace c131 := Bool.eq_false_iff.mpr c131
                  subst c131
                  have H1 : ((impl_Refines.f kj111 t196 t197 t198 t199 t200 t203 t196 t197 t198 (IntKind.u64.wrap (t199 + 1)) t200 t203).bind fun t251 => (some (!t251))) = some r := by rw [if_neg (show ¬ (false = true) by decide)] at H; exact H
                  clear H
                  have H := H1
                  clear H1
                  replace H := Option.bind_eq_some_iff.mp H
                  obtain ⟨t251, A1320, H⟩ := H
                  replace H : (some (!t251)) = some r := H
                  have A132 := Aside0.mk A1320
                  clear A1320
                  obtain rfl := Option.some.inj H
                  have hnb133 := NB212_213.out
                  have hnc133 := NB213_212.out
                  have hnb134 := NB212_230.out
                  have hnc134 := NB230_212.out
                  have hnb135 := NB212_231.out
                  have hnc135 := NB231_212.out
                  have hcz136_0 : wc.cell? ⟨gb212, 0, none⟩ = some (.int .i64 t196) := (blk_cell BK212.out 0).trans rfl
                  have hcz136_1 : wc.cell? ⟨gb212, 1, none⟩ = some (.bool t197) := (blk_cell BK212.out 1).trans rfl
                  have hcz136_2 : wc.cell? ⟨gb212, 2, none⟩ = some (.int .i64 t198) := (blk_cell BK212.out 2).trans rfl
                  have hcz136_3 : wc.cell? ⟨gb212, 3, none⟩ = some (.int .u64 t199) := (blk_cell BK212.out 3).trans rfl
                  have hcz136_4 : wc.cell? ⟨gb212, 4, none⟩ = some (.slice Ao14 t200.length co14) := (blk_cell BK212.out 4).trans rfl
                  have hcz136_5 : wc.cell? ⟨gb212, 5, none⟩ = some (.int .i64 t203) := (blk_cell BK212.out 5).trans rfl
                  have hfz136_0 := blk_frozen BK212.out 0
                  have hfz136_1 := blk_frozen BK212.out 1
                  have hfz136_2 := blk_frozen BK212.out 2
                  have hfz136_3 := blk_frozen BK212.out 3
                  have hfz136_4 := blk_frozen BK212.out 4
                  have hfz136_5 := blk_frozen BK212.out 5
                  go_wp2_with (first | ((with_reducible refine gate_dst (N := 10) rfl ?_); (try (refine gate_guard (by rfl) ?_; dsimp only)); refine box_event ?hg (N := 10) ?hd (cs := #[.int .i64 0, .bool false, .int .i64 0, .int .u64 0, .slice none 0 0, .int .i64 0]) (t := 53) ?hr ?_; (case hd => rfl); (case hg => rfl); (case hr => first | (go_simp; done) | (go_simp; rfl)); intro gb239 hg w137 hbox hb; have n0_ := Aside0.mk (Kd.R_below (by exact HO_213004.out) hb); have n1_ := Aside0.mk (Kd.R_below (by exact HO_214004.out) hb); have n2_ := Aside0.mk (Kd.R_below (by exact HO_231004.out) hb); have n3_ := Aside0.mk (Kd.R_below (by exact HO_232004.out) hb); have n4_ := Aside0.mk (blk_below (g := gb212) (o := .cells #[.int .i64 t196, .bool t197, .int .i64 t198, .int .u64 t199, .slice Ao14 t200.length co14, .int .i64 t203] 53 (0, 0)) (by exact BK212.out) hb); have n5_ := Aside0.mk (blk_below (g := gb213) (o := .cells #[.int .i64 t204, .bool t205, .int .i64 t206, .int .u64 t207, .slice Ao16 t208.length co16, .int .i64 t211] 53 (0, 0)) (by exact BK213.out) hb); have n6_ := Aside0.mk (blk_below (g := gb230) (o := .cells #[.int .i64 t214, .bool t215, .int .i64 t216, .int .u64 t217, .slice Ao24 t218.length co24, .int .i64 t221] 53 (0, 0)) (by exact BK230.out) hb); have n7_ := Aside0.mk (blk_below (g := gb231) (o := .cells #[.int .i64 t222, .bool t223, .int .i64 t224, .int .u64 t225, .slice Ao28 t226.length co28, .int .i64 t229] 53 (0, 0)) (by exact BK231.out) hb); have n8_ := Aside0.mk (below_step (by repeat (first | (with_reducible first | exact HB.out | apply below_alloc | apply pw_below_drewN | apply below_drew1 | refine below_set ?_ GE212.out | refine below_set ?_ GE213.out | refine below_set ?_ GE230.out | refine below_set ?_ GE231.out) | exact HB.out)) hb); have n9_ := Aside0.mk (hbox); have n10_ := Aside0.mk ((by rw [hg]; exact (below_size (by repeat (first | (with_reducible first | exact HB.out | apply below_alloc | apply pw_below_drewN | apply below_drew1 | refine below_set ?_ GE212.out | refine below_set ?_ GE213.out | refine below_set ?_ GE230.out | refine below_set ?_ GE231.out) | exact HB.out))) : w.heap.size ≤ gb239)); have n11_ := Aside0.mk ((by rw [hg]; exact (below_size (by repeat (first | (with_reducible first | exact HB.out | apply below_alloc | apply pw_below_drewN | apply below_drew1 | refine below_set ?_ GE212.out | refine below_set ?_ GE213.out | refine below_set ?_ GE230.out | refine below_set ?_ GE231.out) | exact HB.out))) : w.heap.size ≤ gb239)); have n12_ := Aside0.mk ((by rw [hg]; exact Nat.ne_of_lt (blk_lt (g := gb212) (o := .cells #[.int .i64 t196, .bool t197, .int .i64 t198, .int .u64 t199, .slice Ao14 t200.length co14, .int .i64 t203] 53 (0, 0)) (by exact BK212.out)) : gb212 ≠ gb239)); have n13_ := Aside0.mk ((by rw [hg]; exact Nat.ne_of_gt (blk_lt (g := gb212) (o := .cells #[.int .i64 t196, .bool t197, .int .i64 t198, .int .u64 t199, .slice Ao14 t200.length co14, .int .i64 t203] 53 (0, 0)) (by exact BK212.out)) : gb239 ≠ gb212)); have n14_ := Aside0.mk ((by rw [hg]; exact Nat.ne_of_lt (blk_lt (g := gb213) (o := .cells #[.int .i64 t204, .bool t205, .int .i64 t206, .int .u64 t207, .slice Ao16 t208.length co16, .int .i64 t211] 53 (0, 0)) (by exact BK213.out)) : gb213 ≠ gb239)); have n15_ := Aside0.mk ((by rw [hg]; exact Nat.ne_of_gt (blk_lt (g := gb213) (o := .cells #[.int .i64 t204, .bool t205, .int .i64 t206, .int .u64 t207, .slice Ao16 t208.length co16, .int .i64 t211] 53 (0, 0)) (by exact BK213.out)) : gb239 ≠ gb213)); have n16_ := Aside0.mk ((by rw [hg]; exact Nat.ne_of_lt (blk_lt (g := gb230) (o := .cells #[.int .i64 t214, .bool t215, .int .i64 t216, .int .u64 t217, .slice Ao24 t218.length co24, .int .i64 t221] 53 (0, 0)) (by exact BK230.out)) : gb230 ≠ gb239)); have n17_ := Aside0.mk ((by rw [hg]; exact Nat.ne_of_gt (blk_lt (g := gb230) (o := .cells #[.int .i64 t214, .bool t215, .int .i64 t216, .int .u64 t217, .slice Ao24 t218.length co24, .int .i64 t221] 53 (0, 0)) (by exact BK230.out)) : gb239 ≠ gb230)); have n18_ := Aside0.mk ((by rw [hg]; exact Nat.ne_of_lt (blk_lt (g := gb231) (o := .cells #[.int .i64 t222, .bool t223, .int .i64 t224, .int .u64 t225, .slice Ao28 t226.length co28, .int .i64 t229] 53 (0, 0)) (by exact BK231.out)) : gb231 ≠ gb239)); have n19_ := Aside0.mk ((by rw [hg]; exact Nat.ne_of_gt (blk_lt (g := gb231) (o := .cells #[.int .i64 t222, .bool t223, .int .i64 t224, .int .u64 t225, .slice Ao28 t226.length co28, .int .i64 t229] 53 (0, 0)) (by exact BK231.out)) : gb239 ≠ gb231)); clear HO_213004; clear HO_214004; clear HO_231004; clear HO_232004; clear BK212; clear BK213; clear BK230; clear BK231; clear HB; have HO_213004 := n0_; have HO_214004 := n1_; have HO_231004 := n2_; have HO_232004 := n3_; have BK212 := n4_; have BK213 := n5_; have BK230 := n6_; have BK231 := n7_; have HB := n8_; have BK239 := n9_; have GW239 := n10_; have GE239 := n11_; have NB212_239 := n12_; have NB239_212 := n13_; have NB213_239 := n14_; have NB239_213 := n15_; have NB230_239 := n16_; have NB239_230 := n17_; have NB231_239 := n18_; have NB239_231 := n19_; clear n0_ n1_ n2_ n3_ n4_ n5_ n6_ n7_ n8_ n9_ n10_ n11_ n12_ n13_ n14_ n15_ n16_ n17_ n18_ n19_; clear hb hbox hg; have hnb138 := NB239_212.out; have hnc138 := NB212_239.out; have hnb139 := NB239_213.out; have hnc139 := NB213_239.out; have hnb140 := NB239_230.out; have hnc140 := NB230_239.out; have hnb141 := NB239_231.out; have hnc141 := NB231_239.out; have hcz142_0 : w137.cell? ⟨gb239, 0, none⟩ = some (.int .i64 0) := (blk_cell BK239.out 0).trans rfl; have hcz142_1 : w137.cell? ⟨gb239, 1, none⟩ = some (.bool false) := (blk_cell BK239.out 1).trans rfl; have hcz142_2 : w137.cell? ⟨gb239, 2, none⟩ = some (.int .i64 0) := (blk_cell BK239.out 2).trans rfl; have hcz142_3 : w137.cell? ⟨gb239, 3, none⟩ = some (.int .u64 0) := (blk_cell BK239.out 3).trans rfl; have hcz142_4 : w137.cell? ⟨gb239, 4, none⟩ = some (.slice none 0 0) := (blk_cell BK239.out 4).trans rfl; have hcz142_5 : w137.cell? ⟨gb239, 5, none⟩ = some (.int .i64 0) := (blk_cell BK239.out 5).trans rfl; have hfz142_0 := blk_frozen BK239.out 0; have hfz142_1 := blk_frozen BK239.out 1; have hfz142_2 := blk_frozen BK239.out 2; have hfz142_3 := blk_frozen BK239.out 3; have hfz142_4 := blk_frozen BK239.out 4; have hfz142_5 := blk_frozen BK239.out 5) | ((with_reducible refine gate_dst (N := 101) rfl ?_); (try (refine gate_guard (by rfl) ?_; dsimp only)); refine Kd.R_lit (Kd.int .u64) _ 38 ?hg (N := 101) ?hd (xs := ([] : List Int)) (inner := []) (ok := fun _ => True) (okp := fun _ => True) ?hr ?hp (fun _ hk => hk) trivial (Below.refl _ _) (Nat.le_refl _) (by simp) ?_; (case hd => rfl); (case hg => rfl); (case hr => first | (go_simp; done) | (go_simp; rfl)); (case hp => exact (Reps.none _ _)); intro v241 w143 ho144 hb hg_ hnew_; clear hg_ hnew_; (first | rw [← Ny240.out] at ho144 | (simp only [Int.reduceToNat] at ho144; rw [← Ny240.out] at ho144)); have n0_ := Aside0.mk (Kd.R_elder' (by exact (Kd.R_mono (Kd.R_far (p := ⟨gb239, 5, none⟩) (Kd.R_far (p := ⟨gb239, 4, none⟩) (Kd.R_far (p := ⟨gb239, 3, none⟩) (Kd.R_far (p := ⟨gb239, 2, none⟩) (Kd.R_far (p := ⟨gb239, 1, none⟩) (Kd.R_far (p := ⟨gb239, 0, none⟩) (Kd.R_types HO_213004.out BK239.out (by decide)) (fun _ hk => hk.2) (.int .i64 t196)) (fun _ hk => hk.2) (.bool t197)) (fun _ hk => hk.2) (.int .i64 t198)) (fun _ hk => hk.2) (.int .u64 t199)) (fun _ hk => hk.2) (.slice Ao14 t200.length co14)) (fun _ hk => hk.2) (.int .i64 t203)) (fun _ h_ => h_.1))) (Kd.R_base ho144) hb); have n1_ := Aside0.mk (Kd.R_elder' (by exact (Kd.R_mono (Kd.R_far (p := ⟨gb239, 5, none⟩) (Kd.R_far (p := ⟨gb239, 4, none⟩) (Kd.R_far (p := ⟨gb239, 3, none⟩) (Kd.R_far (p := ⟨gb239, 2, none⟩) (Kd.R_far (p := ⟨gb239, 1, none⟩) (Kd.R_far (p := ⟨gb239, 0, none⟩) (Kd.R_types HO_214004.out BK239.out (by decide)) (fun _ hk => hk.2) (.int .i64 t196)) (fun _ hk => hk.2) (.bool t197)) (fun _ hk => hk.2) (.int .i64 t198)) (fun _ hk => hk.2) (.int .u64 t199)) (fun _ hk => hk.2) (.slice Ao14 t200.length co14)) (fun _ hk => hk.2) (.int .i64 t203)) (fun _ h_ => h_.1))) (Kd.R_base ho144) hb); have n2_ := Aside0.mk (Kd.R_elder' (by exact (Kd.R_mono (Kd.R_far (p := ⟨gb239, 5, none⟩) (Kd.R_far (p := ⟨gb239, 4, none⟩) (Kd.R_far (p := ⟨gb239, 3, none⟩) (Kd.R_far (p := ⟨gb239, 2, none⟩) (Kd.R_far (p := ⟨gb239, 1, none⟩) (Kd.R_far (p := ⟨gb239, 0, none⟩) (Kd.R_types HO_231004.out BK239.out (by decide)) (fun _ hk => hk.2) (.int .i64 t196)) (fun _ hk => hk.2) (.bool t197)) (fun _ hk => hk.2) (.int .i64 t198)) (fun _ hk => hk.2) (.int .u64 t199)) (fun _ hk => hk.2) (.slice Ao14 t200.length co14)) (fun _ hk => hk.2) (.int .i64 t203)) (fun _ h_ => h_.1))) (Kd.R_base ho144) hb); have n3_ := Aside0.mk (Kd.R_elder' (by exact (Kd.R_mono (Kd.R_far (p := ⟨gb239, 5, none⟩) (Kd.R_far (p := ⟨gb239, 4, none⟩) (Kd.R_far (p := ⟨gb239, 3, none⟩) (Kd.R_far (p := ⟨gb239, 2, none⟩) (Kd.R_far (p := ⟨gb239, 1, none⟩) (Kd.R_far (p := ⟨gb239, 0, none⟩) (Kd.R_types HO_232004.out BK239.out (by decide)) (fun _ hk => hk.2) (.int .i64 t196)) (fun _ hk => hk.2) (.bool t197)) (fun _ hk => hk.2) (.int .i64 t198)) (fun _ hk => hk.2) (.int .u64 t199)) (fun _ hk => hk.2) (.slice Ao14 t200.length co14)) (fun _ hk => hk.2) (.int .i64 t203)) (fun _ h_ => h_.1))) (Kd.R_base ho144) hb); have n4_ := Aside0.mk (Kd.R_lower (Kd.R_new' (Kd.R_new' (Kd.R_new' (Kd.R_new' ho144 (Kd.R_lt (by exact (Kd.R_mono (Kd.R_far (p := ⟨gb239, 5, none⟩) (Kd.R_far (p := ⟨gb239, 4, none⟩) (Kd.R_far (p := ⟨gb239, 3, none⟩) (Kd.R_far (p := ⟨gb239, 2, none⟩) (Kd.R_far (p := ⟨gb239, 1, none⟩) (Kd.R_far (p := ⟨gb239, 0, none⟩) (Kd.R_types HO_213004.out BK239.out (by decide)) (fun _ hk => hk.2) (.int .i64 t196)) (fun _ hk => hk.2) (.bool t197)) (fun _ hk => hk.2) (.int .i64 t198)) (fun _ hk => hk.2) (.int .u64 t199)) (fun _ hk => hk.2) (.slice Ao14 t200.length co14)) (fun _ hk => hk.2) (.int .i64 t203)) (fun _ h_ => h_.1))))) (Kd.R_lt (by exact (Kd.R_mono (Kd.R_far (p := ⟨gb239, 5, none⟩) (Kd.R_far (p := ⟨gb239, 4, none⟩) (Kd.R_far (p := ⟨gb239, 3, none⟩) (Kd.R_far (p := ⟨gb239, 2, none⟩) (Kd.R_far (p := ⟨gb239, 1, none⟩) (Kd.R_far (p := ⟨gb239, 0, none⟩) (Kd.R_types HO_214004.out BK239.out (by decide)) (fun _ hk => hk.2) (.int .i64 t196)) (fun _ hk => hk.2) (.bool t197)) (fun _ hk => hk.2) (.int .i64 t198)) (fun _ hk => hk.2) (.int .u64 t199)) (fun _ hk => hk.2) (.slice Ao14 t200.length co14)) (fun _ hk => hk.2) (.int .i64 t203)) (fun _ h_ => h_.1))))) (Kd.R_lt (by exact (Kd.R_mono (Kd.R_far (p := ⟨gb239, 5, none⟩) (Kd.R_far (p := ⟨gb239, 4, none⟩) (Kd.R_far (p := ⟨gb239, 3, none⟩) (Kd.R_far (p := ⟨gb239, 2, none⟩) (Kd.R_far (p := ⟨gb239, 1, none⟩) (Kd.R_far (p := ⟨gb239, 0, none⟩) (Kd.R_types HO_231004.out BK239.out (by decide)) (fun _ hk => hk.2) (.int .i64 t196)) (fun _ hk => hk.2) (.bool t197)) (fun _ hk => hk.2) (.int .i64 t198)) (fun _ hk => hk.2) (.int .u64 t199)) (fun _ hk => hk.2) (.slice Ao14 t200.length co14)) (fun _ hk => hk.2) (.int .i64 t203)) (fun _ h_ => h_.1))))) (Kd.R_lt (by exact (Kd.R_mono (Kd.R_far (p := ⟨gb239, 5, none⟩) (Kd.R_far (p := ⟨gb239, 4, none⟩) (Kd.R_far (p := ⟨gb239, 3, none⟩) (Kd.R_far (p := ⟨gb239, 2, none⟩) (Kd.R_far (p := ⟨gb239, 1, none⟩) (Kd.R_far (p := ⟨gb239, 0, none⟩) (Kd.R_types HO_232004.out BK239.out (by decide)) (fun _ hk => hk.2) (.int .i64 t196)) (fun _ hk => hk.2) (.bool t197)) (fun _ hk => hk.2) (.int .i64 t198)) (fun _ hk => hk.2) (.int .u64 t199)) (fun _ hk => hk.2) (.slice Ao14 t200.length co14)) (fun _ hk => hk.2) (.int .i64 t203)) (fun _ h_ => h_.1))))) (below_size (by repeat (first | (with_reducible first | exact HB.out | apply below_alloc | apply pw_below_drewN | apply below_drew1 | refine below_set ?_ GE212.out | refine below_set ?_ GE213.out | refine below_set ?_ GE230.out | refine below_set ?_ GE231.out | refine below_set ?_ GE239.out) | exact HB.out)))); have n5_ := Aside0.mk (blk_below (g := gb212) (o := .cells #[.int .i64 t196, .bool t197, .int .i64 t198, .int .u64 t199, .slice Ao14 t200.length co14, .int .i64 t203] 53 (0, 0)) (by refine blk_far ?_ NB212_239.out _; refine blk_far ?_ NB212_239.out _; refine blk_far ?_ NB212_239.out _; refine blk_far ?_ NB212_239.out _; refine blk_far ?_ NB212_239.out _; refine blk_far ?_ NB212_239.out _; exact BK212.out) hb); have n6_ := Aside0.mk (blk_below (g := gb213) (o := .cells #[.int .i64 t204, .bool t205, .int .i64 t206, .int .u64 t207, .slice Ao16 t208.length co16, .int .i64 t211] 53 (0, 0)) (by refine blk_far ?_ NB213_239.out _; refine blk_far ?_ NB213_239.out _; refine blk_far ?_ NB213_239.out _; refine blk_far ?_ NB213_239.out _; refine blk_far ?_ NB213_239.out _; refine blk_far ?_ NB213_239.out _; exact BK213.out) hb); have n7_ := Aside0.mk (blk_below (g := gb230) (o := .cells #[.int .i64 t214, .bool t215, .int .i64 t216, .int .u64 t217, .slice Ao24 t218.length co24, .int .i64 t221] 53 (0, 0)) (by refine blk_far ?_ NB230_239.out _; refine blk_far ?_ NB230_239.out _; refine blk_far ?_ NB230_239.out _; refine blk_far ?_ NB230_239.out _; refine blk_far ?_ NB230_239.out _; refine blk_far ?_ NB230_239.out _; exact BK230.out) hb); have n8_ := Aside0.mk (blk_below (g := gb231) (o := .cells #[.int .i64 t222, .bool t223, .int .i64 t224, .int .u64 t225, .slice Ao28 t226.length co28, .int .i64 t229] 53 (0, 0)) (by refine blk_far ?_ NB231_239.out _; refine blk_far ?_ NB231_239.out _; refine blk_far ?_ NB231_239.out _; refine blk_far ?_ NB231_239.out _; refine blk_far ?_ NB231_239.out _; refine blk_far ?_ NB231_239.out _; exact BK231.out) hb); have n9_ := Aside0.mk (blk_below (g := gb239) (o := .cells #[.int .i64 t196, .bool t197, .int .i64 t198, .int .u64 t199, .slice Ao14 t200.length co14, .int .i64 t203] 53 (0, 0)) (by refine blk_put (cs := #[.int .i64 t196, .bool t197, .int .i64 t198, .int .u64 t199, .slice Ao14 t200.length co14, .int .i64 0]) ?_ 5 _ rfl; refine blk_put (cs := #[.int .i64 t196, .bool t197, .int .i64 t198, .int .u64 t199, .slice none 0 0, .int .i64 0]) ?_ 4 _ rfl; refine blk_put (cs := #[.int .i64 t196, .bool t197, .int .i64 t198, .int .u64 0, .slice none 0 0, .int .i64 0]) ?_ 3 _ rfl; refine blk_put (cs := #[.int .i64 t196, .bool t197, .int .i64 0, .int .u64 0, .slice none 0 0, .int .i64 0]) ?_ 2 _ rfl; refine blk_put (cs := #[.int .i64 t196, .bool false, .int .i64 0, .int .u64 0, .slice none 0 0, .int .i64 0]) ?_ 1 _ rfl; refine blk_put (cs := #[.int .i64 0, .bool false, .int .i64 0, .int .u64 0, .slice none 0 0, .int .i64 0]) ?_ 0 _ rfl; exact BK239.out) hb); have n10_ := Aside0.mk (below_step (by repeat (first | (with_reducible first | exact HB.out | apply below_alloc | apply pw_below_drewN | apply below_drew1 | refine below_set ?_ GE212.out | refine below_set ?_ GE213.out | refine below_set ?_ GE230.out | refine below_set ?_ GE231.out | refine below_set ?_ GE239.out) | exact HB.out)) hb); clear HO_213004; clear HO_214004; clear HO_231004; clear HO_232004; clear BK212; clear BK213; clear BK230; clear BK231; clear BK239; clear HB; have HO_213004 := n0_; have HO_214004 := n1_; have HO_231004 := n2_; have HO_232004 := n3_; have HO242 := n4_; have BK212 := n5_; have BK213 := n6_; have BK230 := n7_; have BK231 := n8_; have BK239 := n9_; have HB := n10_; clear n0_ n1_ n2_ n3_ n4_ n5_ n6_ n7_ n8_ n9_ n10_; clear hb ho144; have hcz145_0 : w143.cell? ⟨gb212, 0, none⟩ = some (.int .i64 t196) := (blk_cell BK212.out 0).trans rfl; have hcz145_1 : w143.cell? ⟨gb212, 1, none⟩ = some (.bool t197) := (blk_cell BK212.out 1).trans rfl; have hcz145_2 : w143.cell? ⟨gb212, 2, none⟩ = some (.int .i64 t198) := (blk_cell BK212.out 2).trans rfl; have hcz145_3 : w143.cell? ⟨gb212, 3, none⟩ = some (.int .u64 t199) := (blk_cell BK212.out 3).trans rfl; have hcz145_4 : w143.cell? ⟨gb212, 4, none⟩ = some (.slice Ao14 t200.length co14) := (blk_cell BK212.out 4).trans rfl; have hcz145_5 : w143.cell? ⟨gb212, 5, none⟩ = some (.int .i64 t203) := (blk_cell BK212.out 5).trans rfl; have hfz145_0 := blk_frozen BK212.out 0; have hfz145_1 := blk_frozen BK212.out 1; have hfz145_2 := blk_frozen BK212.out 2; have hfz145_3 := blk_frozen BK212.out 3; have hfz145_4 := blk_frozen BK212.out 4; have hfz145_5 := blk_frozen BK212.out 5) | ((with_reducible refine gate_builtin (b := .append) (xs := #[.tmp 101, .tmp 103]) rfl ?_); (try (refine gate_guard (by rfl) ?_; dsimp only)); at_builtin; refine Kd.R_append_rows (Kd.int .u64) (w0 := w) w.heap.size rfl (.tmp 101) (.tmp 103) 51 38 (.int .u64 0) 8 rfl Try.underlying51 info38 rfl (by decide) (by omega) v241 y240 t200 _ _ _ (fun k_ => some k_ ≠ (.slice Ao14 t200.length co14 : Value).ownBlock ∧ some k_ ≠ (.slice Ao16 t208.length co16 : Value).ownBlock ∧ some k_ ≠ (.slice Ao24 t218.length co24 : Value).ownBlock ∧ some k_ ≠ (.slice Ao28 t226.length co28 : Value).ownBlock) (fun _ => False) rfl rfl ?aO ?aR (fun _ _ h => h) (fun _ h => h.elim) ?aF ?aB ?aS ?aL ?_; (case aR => repeat (first | exact (Kd.R_reads' HO_213004.out).2.2 | (with_reducible refine Kd.C_alloc ?_ _) | (with_reducible refine Kd.C_drewN ?_ _) | (with_reducible refine Kd.C_drew ?_))); (case aB => exact (by repeat (first | (with_reducible first | exact HB.out | apply below_alloc | apply pw_below_drewN | apply below_drew1 | refine below_set ?_ GE212.out | refine below_set ?_ GE213.out | refine below_set ?_ GE230.out | refine below_set ?_ GE231.out | refine below_set ?_ GE239.out) | exact HB.out))); (case aF => exact (fun k_ hk => ⟨Kd.fresh' (Kd.R_lt (by exact HO_213004.out)) k_ hk, Kd.fresh' (Kd.R_lt (by exact HO_214004.out)) k_ hk, Kd.fresh' (Kd.R_lt (by exact HO_231004.out)) k_ hk, Kd.fresh' (Kd.R_lt (by exact HO_232004.out)) k_ hk⟩)); (case aO => exact (by exact Kd.R_mono HO242.out (fun _ hk => ⟨hk.1.1.1.2, ⟨hk.1.1.2, ⟨hk.1.2, hk.2⟩⟩⟩))); (case aS => exact (below_size (by repeat (first | (with_reducible first | exact HB.out | apply below_alloc | apply pw_below_drewN | apply below_drew1 | refine below_set ?_ GE212.out | refine below_set ?_ GE213.out | refine below_set ?_ GE230.out | refine below_set ?_ GE231.out | refine below_set ?_ GE239.out) | exact HB.out)))); (case aL => have := LMc128.out; omega); intro v244 w146 ho hb hg hat; rw [← Ny243.out] at ho; have n0_ := Aside0.mk (Kd.R_after (ok := (fun k_ => some k_ ≠ (.slice Ao16 t208.length co16 : Value).ownBlock ∧ some k_ ≠ (.slice Ao24 t218.length co24 : Value).ownBlock ∧ some k_ ≠ (.slice Ao28 t226.length co28 : Value).ownBlock)) (by exact HO_213004.out) hg hat); have n1_ := Aside0.mk (Kd.R_after (ok := (fun k_ => some k_ ≠ (.slice Ao14 t200.length co14 : Value).ownBlock ∧ some k_ ≠ (.slice Ao24 t218.length co24 : Value).ownBlock ∧ some k_ ≠ (.slice Ao28 t226.length co28 : Value).ownBlock)) (by exact HO_214004.out) hg hat); have n2_ := Aside0.mk (Kd.R_after (ok := (fun k_ => some k_ ≠ (.slice Ao14 t200.length co14 : Value).ownBlock ∧ some k_ ≠ (.slice Ao16 t208.length co16 : Value).ownBlock ∧ some k_ ≠ (.slice Ao28 t226.length co28 : Value).ownBlock)) (by exact HO_231004.out) hg hat); have n3_ := Aside0.mk (Kd.R_after (ok := (fun k_ => some k_ ≠ (.slice Ao14 t200.length co14 : Value).ownBlock ∧ some k_ ≠ (.slice Ao16 t208.length co16 : Value).ownBlock ∧ some k_ ≠ (.slice Ao24 t218.length co24 : Value).ownBlock)) (by exact HO_232004.out) hg hat); have n4_ := Aside0.mk (blk_grown (g := gb212) (o := .cells #[.int .i64 t196, .bool t197, .int .i64 t198, .int .u64 t199, .slice Ao14 t200.length co14, .int .i64 t203] 53 (0, 0)) (by exact BK212.out) hg (Kd.R_ne HO242.out BK212.out (by decide))); have n5_ := Aside0.mk (blk_grown (g := gb213) (o := .cells #[.int .i64 t204, .bool t205, .int .i64 t206, .int .u64 t207, .slice Ao16 t208.length co16, .int .i64 t211] 53 (0, 0)) (by exact BK213.out) hg (Kd.R_ne HO242.out BK213.out (by decide))); have n6_ := Aside0.mk (blk_grown (g := gb230) (o := .cells #[.int .i64 t214, .bool t215, .int .i64 t216, .int .u64 t217, .slice Ao24 t218.length co24, .int .i64 t221] 53 (0, 0)) (by exact BK230.out) hg (Kd.R_ne HO242.out BK230.out (by decide))); have n7_ := Aside0.mk (blk_grown (g := gb231) (o := .cells #[.int .i64 t222, .bool t223, .int .i64 t224, .int .u64 t225, .slice Ao28 t226.length co28, .int .i64 t229] 53 (0, 0)) (by exact BK231.out) hg (Kd.R_ne HO242.out BK231.out (by decide))); have n8_ := Aside0.mk (blk_grown (g := gb239) (o := .cells #[.int .i64 t196, .bool t197, .int .i64 t198, .int .u64 t199, .slice Ao14 t200.length co14, .int .i64 t203] 53 (0, 0)) (by exact BK239.out) hg (Kd.R_ne HO242.out BK239.out (by decide))); have n9_ := Aside0.mk (hb); have n10_ := Aside0.mk (ho); clear HO_213004; clear HO_214004; clear HO_231004; clear HO_232004; clear BK212; clear BK213; clear BK230; clear BK231; clear BK239; clear HB; clear HO242; have HO_213004 := n0_; have HO_214004 := n1_; have HO_231004 := n2_; have HO_232004 := n3_; have BK212 := n4_; have BK213 := n5_; have BK230 := n6_; have BK231 := n7_; have BK239 := n8_; have HB := n9_; have HO245 := n10_; clear n0_ n1_ n2_ n3_ n4_ n5_ n6_ n7_ n8_ n9_ n10_; clear ho hb hg hat) | ((with_reducible refine gate_builtin (b := .append) (xs := #[.tmp 104, .tmp 105]) rfl ?_); (try (refine gate_guard (by rfl) ?_; dsimp only)); at_builtin; refine Kd.R_append (Kd.int .u64) (w0 := w) w.heap.size rfl (.tmp 104) (.tmp 105) 51 38 (.int .u64 0) 8 rfl Try.underlying51 info38 rfl (by decide) (by omega) v244 y243 5 [.int .u64 5] (fun k_ => some k_ ≠ (.slice Ao14 t200.length co14 : Value).ownBlock ∧ some k_ ≠ (.slice Ao16 t208.length co16 : Value).ownBlock ∧ some k_ ≠ (.slice Ao24 t218.length co24 : Value).ownBlock ∧ some k_ ≠ (.slice Ao28 t226.length co28 : Value).ownBlock) (fun _ => False) rfl rfl ?aP (fun _ hk => hk.elim) ?aF ?aO ?aB ?aS ?aL ?_; (case aP => exact rfl); (case aB => exact (by repeat (first | (with_reducible first | exact HB.out | apply below_alloc | apply pw_below_drewN | apply below_drew1 | refine below_set ?_ GE212.out | refine below_set ?_ GE213.out | refine below_set ?_ GE230.out | refine below_set ?_ GE231.out | refine below_set ?_ GE239.out) | exact HB.out))); (case aF => exact (fun k_ hk => ⟨Kd.fresh' (Kd.R_lt (by exact HO_213004.out)) k_ hk, Kd.fresh' (Kd.R_lt (by exact HO_214004.out)) k_ hk, Kd.fresh' (Kd.R_lt (by exact HO_231004.out)) k_ hk, Kd.fresh' (Kd.R_lt (by exact HO_232004.out)) k_ hk⟩)); (case aO => exact (by exact HO245.out)); (case aS => exact (below_size (by repeat (first | (with_reducible first | exact HB.out | apply below_alloc | apply pw_below_drewN | apply below_drew1 | refine below_set ?_ GE212.out | refine below_set ?_ GE213.out | refine below_set ?_ GE230.out | refine below_set ?_ GE231.out | refine below_set ?_ GE239.out) | exact HB.out)))); (case aL => have := LMc129.out; omega); intro v247 w147 ho hb hg hat; rw [← Ny246.out] at ho; have n0_ := Aside0.mk (Kd.R_after (ok := (fun k_ => some k_ ≠ (.slice Ao16 t208.length co16 : Value).ownBlock ∧ some k_ ≠ (.slice Ao24 t218.length co24 : Value).ownBlock ∧ some k_ ≠ (.slice Ao28 t226.length co28 : Value).ownBlock)) (by exact HO_213004.out) hg hat); have n1_ := Aside0.mk (Kd.R_after (ok := (fun k_ => some k_ ≠ (.slice Ao14 t200.length co14 : Value).ownBlock ∧ some k_ ≠ (.slice Ao24 t218.length co24 : Value).ownBlock ∧ some k_ ≠ (.slice Ao28 t226.length co28 : Value).ownBlock)) (by exact HO_214004.out) hg hat); have n2_ := Aside0.mk (Kd.R_after (ok := (fun k_ => some k_ ≠ (.slice Ao14 t200.length co14 : Value).ownBlock ∧ some k_ ≠ (.slice Ao16 t208.length co16 : Value).ownBlock ∧ some k_ ≠ (.slice Ao28 t226.length co28 : Value).ownBlock)) (by exact HO_231004.out) hg hat); have n3_ := Aside0.mk (Kd.R_after (ok := (fun k_ => some k_ ≠ (.slice Ao14 t200.length co14 : Value).ownBlock ∧ some k_ ≠ (.slice Ao16 t208.length co16 : Value).ownBlock ∧ some k_ ≠ (.slice Ao24 t218.length co24 : Value).ownBlock)) (by exact HO_232004.out) hg hat); have n4_ := Aside0.mk (blk_grown (g := gb212) (o := .cells #[.int .i64 t196, .bool t197, .int .i64 t198, .int .u64 t199, .slice Ao14 t200.length co14, .int .i64 t203] 53 (0, 0)) (by exact BK212.out) hg (Kd.R_ne HO245.out BK212.out (by decide))); have n5_ := Aside0.mk (blk_grown (g := gb213) (o := .cells #[.int .i64 t204, .bool t205, .int .i64 t206, .int .u64 t207, .slice Ao16 t208.length co16, .int .i64 t211] 53 (0, 0)) (by exact BK213.out) hg (Kd.R_ne HO245.out BK213.out (by decide))); have n6_ := Aside0.mk (blk_grown (g := gb230) (o := .cells #[.int .i64 t214, .bool t215, .int .i64 t216, .int .u64 t217, .slice Ao24 t218.length co24, .int .i64 t221] 53 (0, 0)) (by exact BK230.out) hg (Kd.R_ne HO245.out BK230.out (by decide))); have n7_ := Aside0.mk (blk_grown (g := gb231) (o := .cells #[.int .i64 t222, .bool t223, .int .i64 t224, .int .u64 t225, .slice Ao28 t226.length co28, .int .i64 t229] 53 (0, 0)) (by exact BK231.out) hg (Kd.R_ne HO245.out BK231.out (by decide))); have n8_ := Aside0.mk (blk_grown (g := gb239) (o := .cells #[.int .i64 t196, .bool t197, .int .i64 t198, .int .u64 t199, .slice Ao14 t200.length co14, .int .i64 t203] 53 (0, 0)) (by exact BK239.out) hg (Kd.R_ne HO245.out BK239.out (by decide))); have n9_ := Aside0.mk (hb); have n10_ := Aside0.mk (ho); clear HO_213004; clear HO_214004; clear HO_231004; clear HO_232004; clear BK212; clear BK213; clear BK230; clear BK231; clear BK239; clear HB; clear HO245; have HO_213004 := n0_; have HO_214004 := n1_; have HO_231004 := n2_; have HO_232004 := n3_; have BK212 := n4_; have BK213 := n5_; have BK230 := n6_; have BK231 := n7_; have BK239 := n8_; have HB := n9_; have HO248 := n10_; clear n0_ n1_ n2_ n3_ n4_ n5_ n6_ n7_ n8_ n9_ n10_; clear ho hb hg hat; obtain ⟨Ao148, co148, eo148⟩ := Kd.R_slice HO248.out; subst eo148; have hcz149_0 : w147.cell? ⟨gb239, 0, none⟩ = some (.int .i64 t196) := (blk_cell BK239.out 0).trans rfl; have hcz149_1 : w147.cell? ⟨gb239, 1, none⟩ = some (.bool t197) := (blk_cell BK239.out 1).trans rfl; have hcz149_2 : w147.cell? ⟨gb239, 2, none⟩ = some (.int .i64 t198) := (blk_cell BK239.out 2).trans rfl; have hcz149_3 : w147.cell? ⟨gb239, 3, none⟩ = some (.int .u64 t199) := (blk_cell BK239.out 3).trans rfl; have hcz149_4 : w147.cell? ⟨gb239, 4, none⟩ = some (.slice Ao14 t200.length co14) := (blk_cell BK239.out 4).trans rfl; have hcz149_5 : w147.cell? ⟨gb239, 5, none⟩ = some (.int .i64 t203) := (blk_cell BK239.out 5).trans rfl; have hfz149_0 := blk_frozen BK239.out 0; have hfz149_1 := blk_frozen BK239.out 1; have hfz149_2 := blk_frozen BK239.out 2; have hfz149_3 := blk_frozen BK239.out 3; have hfz149_4 := blk_frozen BK239.out 4; have hfz149_5 := blk_frozen BK239.out 5; have hcz150_0 : w147.cell? ⟨gb212, 0, none⟩ = some (.int .i64 t196) := (blk_cell BK212.out 0).trans rfl; have hcz150_1 : w147.cell? ⟨gb212, 1, none⟩ = some (.bool t197) := (blk_cell BK212.out 1).trans rfl; have hcz150_2 : w147.cell? ⟨gb212, 2, none⟩ = some (.int .i64 t198) := (blk_cell BK212.out 2).trans rfl; have hcz150_3 : w147.cell? ⟨gb212, 3, none⟩ = some (.int .u64 t199) := (blk_cell BK212.out 3).trans rfl; have hcz150_4 : w147.cell? ⟨gb212, 4, none⟩ = some (.slice Ao14 t200.length co14) := (blk_cell BK212.out 4).trans rfl; have hcz150_5 : w147.cell? ⟨gb212, 5, none⟩ = some (.int .i64 t203) := (blk_cell BK212.out 5).trans rfl; have hfz150_0 := blk_frozen BK212.out 0; have hfz150_1 := blk_frozen BK212.out 1; have hfz150_2 := blk_frozen BK212.out 2; have hfz150_3 := blk_frozen BK212.out 3; have hfz150_4 := blk_frozen BK212.out 4; have hfz150_5 := blk_frozen BK212.out 5) | ((with_reducible refine gate_dst (N := 11) rfl ?_); (try (refine gate_guard (by rfl) ?_; dsimp only)); refine box_event ?hg (N := 11) ?hd (cs := #[.int .i64 0, .bool false, .int .i64 0, .int .u64 0, .slice none 0 0, .int .i64 0]) (t := 53) ?hr ?_; (case hd => rfl); (case hg => rfl); (case hr => first | (go_simp; done) | (go_simp; rfl)); intro gb249 hg w151 hbox hb; have n0_ := Aside0.mk (Kd.R_below (by exact (Kd.R_mono (Kd.R_far (p := ⟨gb239, 4, none⟩) (Kd.R_types HO_213004.out BK239.out (by decide)) (fun _ hk => hk.2) (.slice Ao148 y246.length co148)) (fun _ h_ => h_.1))) hb); have n1_ := Aside0.mk (Kd.R_below (by exact (Kd.R_mono (Kd.R_far (p := ⟨gb239, 4, none⟩) (Kd.R_types HO_214004.out BK239.out (by decide)) (fun _ hk => hk.2) (.slice Ao148 y246.length co148)) (fun _ h_ => h_.1))) hb); have n2_ := Aside0.mk (Kd.R_below (by exact (Kd.R_mono (Kd.R_far (p := ⟨gb239, 4, none⟩) (Kd.R_types HO_231004.out BK239.out (by decide)) (fun _ hk => hk.2) (.slice Ao148 y246.length co148)) (fun _ h_ => h_.1))) hb); have n3_ := Aside0.mk (Kd.R_below (by exact (Kd.R_mono (Kd.R_far (p := ⟨gb239, 4, none⟩) (Kd.R_types HO_232004.out BK239.out (by decide)) (fun _ hk => hk.2) (.slice Ao148 y246.length co148)) (fun _ h_ => h_.1))) hb); have n4_ := Aside0.mk (Kd.R_below (by exact (Kd.R_mono (Kd.R_far (p := ⟨gb239, 4, none⟩) (Kd.R_types HO248.out BK239.out (by decide)) (fun _ hk => hk.2) (.slice Ao148 y246.length co148)) (fun _ h_ => h_.1))) hb); have n5_ := Aside0.mk (blk_below (g := gb212) (o := .cells #[.int .i64 t196, .bool t197, .int .i64 t198, .int .u64 t199, .slice Ao14 t200.length co14, .int .i64 t203] 53 (0, 0)) (by refine blk_far ?_ NB212_239.out _; exact BK212.out) hb); have n6_ := Aside0.mk (blk_below (g := gb213) (o := .cells #[.int .i64 t204, .bool t205, .int .i64 t206, .int .u64 t207, .slice Ao16 t208.length co16, .int .i64 t211] 53 (0, 0)) (by refine blk_far ?_ NB213_239.out _; exact BK213.out) hb); have n7_ := Aside0.mk (blk_below (g := gb230) (o := .cells #[.int .i64 t214, .bool t215, .int .i64 t216, .int .u64 t217, .slice Ao24 t218.length co24, .int .i64 t221] 53 (0, 0)) (by refine blk_far ?_ NB230_239.out _; exact BK230.out) hb); have n8_ := Aside0.mk (blk_below (g := gb231) (o := .cells #[.int .i64 t222, .bool t223, .int .i64 t224, .int .u64 t225, .slice Ao28 t226.length co28, .int .i64 t229] 53 (0, 0)) (by refine blk_far ?_ NB231_239.out _; exact BK231.out) hb); have n9_ := Aside0.mk (blk_below (g := gb239) (o := .cells #[.int .i64 t196, .bool t197, .int .i64 t198, .int .u64 t199, .slice Ao148 y246.length co148, .int .i64 t203] 53 (0, 0)) (by refine blk_put (cs := #[.int .i64 t196, .bool t197, .int .i64 t198, .int .u64 t199, .slice Ao14 t200.length co14, .int .i64 t203]) ?_ 4 _ rfl; exact BK239.out) hb); have n10_ := Aside0.mk (below_step (by repeat (first | (with_reducible first | exact HB.out | apply below_alloc | apply pw_below_drewN | apply below_drew1 | refine below_set ?_ GE212.out | refine below_set ?_ GE213.out | refine below_set ?_ GE230.out | refine below_set ?_ GE231.out | refine below_set ?_ GE239.out) | exact HB.out)) hb); have n11_ := Aside0.mk (hbox); have n12_ := Aside0.mk ((by rw [hg]; exact (below_size (by repeat (first | (with_reducible first | exact HB.out | apply below_alloc | apply pw_below_drewN | apply below_drew1 | refine below_set ?_ GE212.out | refine below_set ?_ GE213.out | refine below_set ?_ GE230.out | refine below_set ?_ GE231.out | refine below_set ?_ GE239.out) | exact HB.out))) : w.heap.size ≤ gb249)); have n13_ := Aside0.mk ((by rw [hg]; exact (below_size (by repeat (first | (with_reducible first | exact HB.out | apply below_alloc | apply pw_below_drewN | apply below_drew1 | refine below_set ?_ GE212.out | refine below_set ?_ GE213.out | refine below_set ?_ GE230.out | refine below_set ?_ GE231.out | refine below_set ?_ GE239.out) | exact HB.out))) : w.heap.size ≤ gb249)); have n14_ := Aside0.mk ((by rw [hg]; exact Nat.ne_of_lt (blk_lt (g := gb212) (o := .cells #[.int .i64 t196, .bool t197, .int .i64 t198, .int .u64 t199, .slice Ao14 t200.length co14, .int .i64 t203] 53 (0, 0)) (by refine blk_far ?_ NB212_239.out _; exact BK212.out)) : gb212 ≠ gb249)); have n15_ := Aside0.mk ((by rw [hg]; exact Nat.ne_of_gt (blk_lt (g := gb212) (o := .cells #[.int .i64 t196, .bool t197, .int .i64 t198, .int .u64 t199, .slice Ao14 t200.length co14, .int .i64 t203] 53 (0, 0)) (by refine blk_far ?_ NB212_239.out _; exact BK212.out)) : gb249 ≠ gb212)); have n16_ := Aside0.mk ((by rw [hg]; exact Nat.ne_of_lt (blk_lt (g := gb213) (o := .cells #[.int .i64 t204, .bool t205, .int .i64 t206, .int .u64 t207, .slice Ao16 t208.length co16, .int .i64 t211] 53 (0, 0)) (by refine blk_far ?_ NB213_239.out _; exact BK213.out)) : gb213 ≠ gb249)); have n17_ := Aside0.mk ((by rw [hg]; exact Nat.ne_of_gt (blk_lt (g := gb213) (o := .cells #[.int .i64 t204, .bool t205, .int .i64 t206, .int .u64 t207, .slice Ao16 t208.length co16, .int .i64 t211] 53 (0, 0)) (by refine blk_far ?_ NB213_239.out _; exact BK213.out)) : gb249 ≠ gb213)); have n18_ := Aside0.mk ((by rw [hg]; exact Nat.ne_of_lt (blk_lt (g := gb230) (o := .cells #[.int .i64 t214, .bool t215, .int .i64 t216, .int .u64 t217, .slice Ao24 t218.length co24, .int .i64 t221] 53 (0, 0)) (by refine blk_far ?_ NB230_239.out _; exact BK230.out)) : gb230 ≠ gb249)); have n19_ := Aside0.mk ((by rw [hg]; exact Nat.ne_of_gt (blk_lt (g := gb230) (o := .cells #[.int .i64 t214, .bool t215, .int .i64 t216, .int .u64 t217, .slice Ao24 t218.length co24, .int .i64 t221] 53 (0, 0)) (by refine blk_far ?_ NB230_239.out _; exact BK230.out)) : gb249 ≠ gb230)); have n20_ := Aside0.mk ((by rw [hg]; exact Nat.ne_of_lt (blk_lt (g := gb231) (o := .cells #[.int .i64 t222, .bool t223, .int .i64 t224, .int .u64 t225, .slice Ao28 t226.length co28, .int .i64 t229] 53 (0, 0)) (by refine blk_far ?_ NB231_239.out _; exact BK231.out)) : gb231 ≠ gb249)); have n21_ := Aside0.mk ((by rw [hg]; exact Nat.ne_of_gt (blk_lt (g := gb231) (o := .cells #[.int .i64 t222, .bool t223, .int .i64 t224, .int .u64 t225, .slice Ao28 t226.length co28, .int .i64 t229] 53 (0, 0)) (by refine blk_far ?_ NB231_239.out _; exact BK231.out)) : gb249 ≠ gb231)); have n22_ := Aside0.mk ((by rw [hg]; exact Nat.ne_of_lt (blk_lt (g := gb239) (o := .cells #[.int .i64 t196, .bool t197, .int .i64 t198, .int .u64 t199, .slice Ao148 y246.length co148, .int .i64 t203] 53 (0, 0)) (by refine blk_put (cs := #[.int .i64 t196, .bool t197, .int .i64 t198, .int .u64 t199, .slice Ao14 t200.length co14, .int .i64 t203]) ?_ 4 _ rfl; exact BK239.out)) : gb239 ≠ gb249)); have n23_ := Aside0.mk ((by rw [hg]; exact Nat.ne_of_gt (blk_lt (g := gb239) (o := .cells #[.int .i64 t196, .bool t197, .int .i64 t198, .int .u64 t199, .slice Ao148 y246.length co148, .int .i64 t203] 53 (0, 0)) (by refine blk_put (cs := #[.int .i64 t196, .bool t197, .int .i64 t198, .int .u64 t199, .slice Ao14 t200.length co14, .int .i64 t203]) ?_ 4 _ rfl; exact BK239.out)) : gb249 ≠ gb239)); clear HO_213004; clear HO_214004; clear HO_231004; clear HO_232004; clear HO248; clear BK212; clear BK213; clear BK230; clear BK231; clear BK239; clear HB; have HO_213004 := n0_; have HO_214004 := n1_; have HO_231004 := n2_; have HO_232004 := n3_; have HO248 := n4_; have BK212 := n5_; have BK213 := n6_; have BK230 := n7_; have BK231 := n8_; have BK239 := n9_; have HB := n10_; have BK249 := n11_; have GW249 := n12_; have GE249 := n13_; have NB212_249 := n14_; have NB249_212 := n15_; have NB213_249 := n16_; have NB249_213 := n17_; have NB230_249 := n18_; have NB249_230 := n19_; have NB231_249 := n20_; have NB249_231 := n21_; have NB239_249 := n22_; have NB249_239 := n23_; clear n0_ n1_ n2_ n3_ n4_ n5_ n6_ n7_ n8_ n9_ n10_ n11_ n12_ n13_ n14_ n15_ n16_ n17_ n18_ n19_ n20_ n21_ n22_ n23_; clear hb hbox hg; have hnb152 := NB249_212.out; have hnc152 := NB212_249.out; have hnb153 := NB249_213.out; have hnc153 := NB213_249.out; have hnb154 := NB249_230.out; have hnc154 := NB230_249.out; have hnb155 := NB249_231.out; have hnc155 := NB231_249.out; have hnb156 := NB249_239.out; have hnc156 := NB239_249.out; have hcz157_0 : w151.cell? ⟨gb249, 0, none⟩ = some (.int .i64 0) := (blk_cell BK249.out 0).trans rfl; have hcz157_1 : w151.cell? ⟨gb249, 1, none⟩ = some (.bool false) := (blk_cell BK249.out 1).trans rfl; have hcz157_2 : w151.cell? ⟨gb249, 2, none⟩ = some (.int .i64 0) := (blk_cell BK249.out 2).trans rfl; have hcz157_3 : w151.cell? ⟨gb249, 3, none⟩ = some (.int .u64 0) := (blk_cell BK249.out 3).trans rfl; have hcz157_4 : w151.cell? ⟨gb249, 4, none⟩ = some (.slice none 0 0) := (blk_cell BK249.out 4).trans rfl; have hcz157_5 : w151.cell? ⟨gb249, 5, none⟩ = some (.int .i64 0) := (blk_cell BK249.out 5).trans rfl; have hfz157_0 := blk_frozen BK249.out 0; have hfz157_1 := blk_frozen BK249.out 1; have hfz157_2 := blk_frozen BK249.out 2; have hfz157_3 := blk_frozen BK249.out 3; have hfz157_4 := blk_frozen BK249.out 4; have hfz157_5 := blk_frozen BK249.out 5; have hcz158_0 : w151.cell? ⟨gb212, 0, none⟩ = some (.int .i64 t196) := (blk_cell BK212.out 0).trans rfl; have hcz158_1 : w151.cell? ⟨gb212, 1, none⟩ = some (.bool t197) := (blk_cell BK212.out 1).trans rfl; have hcz158_2 : w151.cell? ⟨gb212, 2, none⟩ = some (.int .i64 t198) := (blk_cell BK212.out 2).trans rfl; have hcz158_3 : w151.cell? ⟨gb212, 3, none⟩ = some (.int .u64 t199) := (blk_cell BK212.out 3).trans rfl; have hcz158_4 : w151.cell? ⟨gb212, 4, none⟩ = some (.slice Ao14 t200.length co14) := (blk_cell BK212.out 4).trans rfl; have hcz158_5 : w151.cell? ⟨gb212, 5, none⟩ = some (.int .i64 t203) := (blk_cell BK212.out 5).trans rfl; have hfz158_0 := blk_frozen BK212.out 0; have hfz158_1 := blk_frozen BK212.out 1; have hfz158_2 := blk_frozen BK212.out 2; have hfz158_3 := blk_frozen BK212.out 3; have hfz158_4 := blk_frozen BK212.out 4; have hfz158_5 := blk_frozen BK212.out 5; have hcz159_0 : w151.cell? ⟨gb239, 0, none⟩ = some (.int .i64 t196) := (blk_cell BK239.out 0).trans rfl; have hcz159_1 : w151.cell? ⟨gb239, 1, none⟩ = some (.bool t197) := (blk_cell BK239.out 1).trans rfl; have hcz159_2 : w151.cell? ⟨gb239, 2, none⟩ = some (.int .i64 t198) := (blk_cell BK239.out 2).trans rfl; have hcz159_3 : w151.cell? ⟨gb239, 3, none⟩ = some (.int .u64 t199) := (blk_cell BK239.out 3).trans rfl; have hcz159_4 : w151.cell? ⟨gb239, 4, none⟩ = some (.slice Ao148 y246.length co148) := (blk_cell BK239.out 4).trans rfl; have hcz159_5 : w151.cell? ⟨gb239, 5, none⟩ = some (.int .i64 t203) := (blk_cell BK239.out 5).trans rfl; have hfz159_0 := blk_frozen BK239.out 0; have hfz159_1 := blk_frozen BK239.out 1; have hfz159_2 := blk_frozen BK239.out 2; have hfz159_3 := blk_frozen BK239.out 3; have hfz159_4 := blk_frozen BK239.out 4; have hfz159_5 := blk_frozen BK239.out 5) | ((with_reducible refine gate_callee (f := 34) rfl ?_); refine goesL_ (some 117) rfl rfl Try.func34 (by kernel_rfl) rfl #[.agg #[.int .i64 t196, .bool t197, .int .i64 t198, .int .u64 t199, .slice Ao14 t200.length co14, .int .i64 t203], .agg #[.int .i64 t196, .bool t197, .int .i64 t198, .int .u64 t199, .slice Ao148 y246.length co148, .int .i64 t203]] rfl (by (try simp only [List.map_toArray, List.map_cons, List.map_nil]); first | done | rfl | (simp only [List.length_drop, List.length_take]; rfl)) ?_; (with_reducible refine (impl_Refines.calls kj111 t196 t197 t198 t199 _ _ t200 t203 t196 t197 t198 t199 _ _ y246 t203 false _ ?side1 ?side2 ?side3 ?side4 A130.out).mono ?_); (case side1 => refine (Kd.R_reads' (e := 38) (base := w.heap.size) (ok := fun k_ => ((some k_ ≠ (.slice Ao16 t208.length co16 : Value).ownBlock ∧ (some k_ ≠ (.slice Ao24 t218.length co24 : Value).ownBlock ∧ some k_ ≠ (.slice Ao28 t226.length co28 : Value).ownBlock)) ∧ some k_ ≠ (.slice Ao148 y246.length co148 : Value).ownBlock)) (n := t200.length) (c := co14) ?_).2.2; exact (by exact (Kd.R_mono (Kd.R_far (p := ⟨gb249, 3, none⟩) (Kd.R_far (p := ⟨gb249, 5, none⟩) (Kd.R_far (p := ⟨gb249, 4, none⟩) (Kd.R_far (p := ⟨gb249, 3, none⟩) (Kd.R_far (p := ⟨gb249, 2, none⟩) (Kd.R_far (p := ⟨gb249, 1, none⟩) (Kd.R_far (p := ⟨gb249, 0, none⟩) (Kd.R_types HO_213004.out BK249.out (by decide)) (fun _ hk => hk.2) (.int .i64 t196)) (fun _ hk => hk.2) (.bool t197)) (fun _ hk => hk.2) (.int .i64 t198)) (fun _ hk => hk.2) (.int .u64 t199)) (fun _ hk => hk.2) (.slice Ao14 t200.length co14)) (fun _ hk => hk.2) (.int .i64 t203)) (fun _ hk => hk.2) (.int .u64 (IntKind.u64.wrap (t199 + 1)))) (fun _ h_ => h_.1)))); (case side2 => exact (Kd.R_reads' HO_213004.out).2.1); (case side3 => refine (Kd.R_reads' (e := 38) (base := w.heap.size) (ok := fun k_ => (some k_ ≠ (.slice Ao14 t200.length co14 : Value).ownBlock ∧ (some k_ ≠ (.slice Ao16 t208.length co16 : Value).ownBlock ∧ (some k_ ≠ (.slice Ao24 t218.length co24 : Value).ownBlock ∧ some k_ ≠ (.slice Ao28 t226.length co28 : Value).ownBlock)))) (n := y246.length) (c := co148) ?_).2.2; exact (by exact (Kd.R_mono (Kd.R_far (p := ⟨gb249, 3, none⟩) (Kd.R_far (p := ⟨gb249, 5, none⟩) (Kd.R_far (p := ⟨gb249, 4, none⟩) (Kd.R_far (p := ⟨gb249, 3, none⟩) (Kd.R_far (p := ⟨gb249, 2, none⟩) (Kd.R_far (p := ⟨gb249, 1, none⟩) (Kd.R_far (p := ⟨gb249, 0, none⟩) (Kd.R_types HO248.out BK249.out (by decide)) (fun _ hk => hk.2) (.int .i64 t196)) (fun _ hk => hk.2) (.bool t197)) (fun _ hk => hk.2) (.int .i64 t198)) (fun _ hk => hk.2) (.int .u64 t199)) (fun _ hk => hk.2) (.slice Ao14 t200.length co14)) (fun _ hk => hk.2) (.int .i64 t203)) (fun _ hk => hk.2) (.int .u64 (IntKind.u64.wrap (t199 + 1)))) (fun _ h_ => h_.1)))); (case side4 => exact (Kd.R_reads' HO248.out).2.1); rintro e w160 ⟨rfl, hb⟩; refine ⟨_, rfl, ?_⟩; have n0_ := Aside0.mk (Kd.R_below (by exact (Kd.R_mono (Kd.R_far (p := ⟨gb249, 3, none⟩) (Kd.R_far (p := ⟨gb249, 5, none⟩) (Kd.R_far (p := ⟨gb249, 4, none⟩) (Kd.R_far (p := ⟨gb249, 3, none⟩) (Kd.R_far (p := ⟨gb249, 2, none⟩) (Kd.R_far (p := ⟨gb249, 1, none⟩) (Kd.R_far (p := ⟨gb249, 0, none⟩) (Kd.R_types HO_213004.out BK249.out (by decide)) (fun _ hk => hk.2) (.int .i64 t196)) (fun _ hk => hk.2) (.bool t197)) (fun _ hk => hk.2) (.int .i64 t198)) (fun _ hk => hk.2) (.int .u64 t199)) (fun _ hk => hk.2) (.slice Ao14 t200.length co14)) (fun _ hk => hk.2) (.int .i64 t203)) (fun _ hk => hk.2) (.int .u64 (IntKind.u64.wrap (t199 + 1)))) (fun _ h_ => h_.1))) hb); have n1_ := Aside0.mk (Kd.R_below (by exact (Kd.R_mono (Kd.R_far (p := ⟨gb249, 3, none⟩) (Kd.R_far (p := ⟨gb249, 5, none⟩) (Kd.R_far (p := ⟨gb249, 4, none⟩) (Kd.R_far (p := ⟨gb249, 3, none⟩) (Kd.R_far (p := ⟨gb249, 2, none⟩) (Kd.R_far (p := ⟨gb249, 1, none⟩) (Kd.R_far (p := ⟨gb249, 0, none⟩) (Kd.R_types HO_214004.out BK249.out (by decide)) (fun _ hk => hk.2) (.int .i64 t196)) (fun _ hk => hk.2) (.bool t197)) (fun _ hk => hk.2) (.int .i64 t198)) (fun _ hk => hk.2) (.int .u64 t199)) (fun _ hk => hk.2) (.slice Ao14 t200.length co14)) (fun _ hk => hk.2) (.int .i64 t203)) (fun _ hk => hk.2) (.int .u64 (IntKind.u64.wrap (t199 + 1)))) (fun _ h_ => h_.1))) hb); have n2_ := Aside0.mk (Kd.R_below (by exact (Kd.R_mono (Kd.R_far (p := ⟨gb249, 3, none⟩) (Kd.R_far (p := ⟨gb249, 5, none⟩) (Kd.R_far (p := ⟨gb249, 4, none⟩) (Kd.R_far (p := ⟨gb249, 3, none⟩) (Kd.R_far (p := ⟨gb249, 2, none⟩) (Kd.R_far (p := ⟨gb249, 1, none⟩) (Kd.R_far (p := ⟨gb249, 0, none⟩) (Kd.R_types HO_231004.out BK249.out (by decide)) (fun _ hk => hk.2) (.int .i64 t196)) (fun _ hk => hk.2) (.bool t197)) (fun _ hk => hk.2) (.int .i64 t198)) (fun _ hk => hk.2) (.int .u64 t199)) (fun _ hk => hk.2) (.slice Ao14 t200.length co14)) (fun _ hk => hk.2) (.int .i64 t203)) (fun _ hk => hk.2) (.int .u64 (IntKind.u64.wrap (t199 + 1)))) (fun _ h_ => h_.1))) hb); have n3_ := Aside0.mk (Kd.R_below (by exact (Kd.R_mono (Kd.R_far (p := ⟨gb249, 3, none⟩) (Kd.R_far (p := ⟨gb249, 5, none⟩) (Kd.R_far (p := ⟨gb249, 4, none⟩) (Kd.R_far (p := ⟨gb249, 3, none⟩) (Kd.R_far (p := ⟨gb249, 2, none⟩) (Kd.R_far (p := ⟨gb249, 1, none⟩) (Kd.R_far (p := ⟨gb249, 0, none⟩) (Kd.R_types HO_232004.out BK249.out (by decide)) (fun _ hk => hk.2) (.int .i64 t196)) (fun _ hk => hk.2) (.bool t197)) (fun _ hk => hk.2) (.int .i64 t198)) (fun _ hk => hk.2) (.int .u64 t199)) (fun _ hk => hk.2) (.slice Ao14 t200.length co14)) (fun _ hk => hk.2) (.int .i64 t203)) (fun _ hk => hk.2) (.int .u64 (IntKind.u64.wrap (t199 + 1)))) (fun _ h_ => h_.1))) hb); have n4_ := Aside0.mk (Kd.R_below (by exact (Kd.R_mono (Kd.R_far (p := ⟨gb249, 3, none⟩) (Kd.R_far (p := ⟨gb249, 5, none⟩) (Kd.R_far (p := ⟨gb249, 4, none⟩) (Kd.R_far (p := ⟨gb249, 3, none⟩) (Kd.R_far (p := ⟨gb249, 2, none⟩) (Kd.R_far (p := ⟨gb249, 1, none⟩) (Kd.R_far (p := ⟨gb249, 0, none⟩) (Kd.R_types HO248.out BK249.out (by decide)) (fun _ hk => hk.2) (.int .i64 t196)) (fun _ hk => hk.2) (.bool t197)) (fun _ hk => hk.2) (.int .i64 t198)) (fun _ hk => hk.2) (.int .u64 t199)) (fun _ hk => hk.2) (.slice Ao14 t200.length co14)) (fun _ hk => hk.2) (.int .i64 t203)) (fun _ hk => hk.2) (.int .u64 (IntKind.u64.wrap (t199 + 1)))) (fun _ h_ => h_.1))) hb); have n5_ := Aside0.mk (blk_below (g := gb212) (o := .cells #[.int .i64 t196, .bool t197, .int .i64 t198, .int .u64 t199, .slice Ao14 t200.length co14, .int .i64 t203] 53 (0, 0)) (by refine blk_far ?_ NB212_249.out _; refine blk_far ?_ NB212_249.out _; refine blk_far ?_ NB212_249.out _; refine blk_far ?_ NB212_249.out _; refine blk_far ?_ NB212_249.out _; refine blk_far ?_ NB212_249.out _; refine blk_far ?_ NB212_249.out _; exact BK212.out) hb); have n6_ := Aside0.mk (blk_below (g := gb213) (o := .cells #[.int .i64 t204, .bool t205, .int .i64 t206, .int .u64 t207, .slice Ao16 t208.length co16, .int .i64 t211] 53 (0, 0)) (by refine blk_far ?_ NB213_249.out _; refine blk_far ?_ NB213_249.out _; refine blk_far ?_ NB213_249.out _; refine blk_far ?_ NB213_249.out _; refine blk_far ?_ NB213_249.out _; refine blk_far ?_ NB213_249.out _; refine blk_far ?_ NB213_249.out _; exact BK213.out) hb); have n7_ := Aside0.mk (blk_below (g := gb230) (o := .cells #[.int .i64 t214, .bool t215, .int .i64 t216, .int .u64 t217, .slice Ao24 t218.length co24, .int .i64 t221] 53 (0, 0)) (by refine blk_far ?_ NB230_249.out _; refine blk_far ?_ NB230_249.out _; refine blk_far ?_ NB230_249.out _; refine blk_far ?_ NB230_249.out _; refine blk_far ?_ NB230_249.out _; refine blk_far ?_ NB230_249.out _; refine blk_far ?_ NB230_249.out _; exact BK230.out) hb); have n8_ := Aside0.mk (blk_below (g := gb231) (o := .cells #[.int .i64 t222, .bool t223, .int .i64 t224, .int .u64 t225, .slice Ao28 t226.length co28, .int .i64 t229] 53 (0, 0)) (by refine blk_far ?_ NB231_249.out _; refine blk_far ?_ NB231_249.out _; refine blk_far ?_ NB231_249.out _; refine blk_far ?_ NB231_249.out _; refine blk_far ?_ NB231_249.out _; refine blk_far ?_ NB231_249.out _; refine blk_far ?_ NB231_249.out _; exact BK231.out) hb); have n9_ := Aside0.mk (blk_below (g := gb239) (o := .cells #[.int .i64 t196, .bool t197, .int .i64 t198, .int .u64 t199, .slice Ao148 y246.length co148, .int .i64 t203] 53 (0, 0)) (by refine blk_far ?_ NB239_249.out _; refine blk_far ?_ NB239_249.out _; refine blk_far ?_ NB239_249.out _; refine blk_far ?_ NB239_249.out _; refine blk_far ?_ NB239_249.out _; refine blk_far ?_ NB239_249.out _; refine blk_far ?_ NB239_249.out _; exact BK239.out) hb); have n10_ := Aside0.mk (blk_below (g := gb249) (o := .cells #[.int .i64 t196, .bool t197, .int .i64 t198, .int .u64 (IntKind.u64.wrap (t199 + 1)), .slice Ao14 t200.length co14, .int .i64 t203] 53 (0, 0)) (by refine blk_put (cs := #[.int .i64 t196, .bool t197, .int .i64 t198, .int .u64 t199, .slice Ao14 t200.length co14, .int .i64 t203]) ?_ 3 _ rfl; refine blk_put (cs := #[.int .i64 t196, .bool t197, .int .i64 t198, .int .u64 t199, .slice Ao14 t200.length co14, .int .i64 0]) ?_ 5 _ rfl; refine blk_put (cs := #[.int .i64 t196, .bool t197, .int .i64 t198, .int .u64 t199, .slice none 0 0, .int .i64 0]) ?_ 4 _ rfl; refine blk_put (cs := #[.int .i64 t196, .bool t197, .int .i64 t198, .int .u64 0, .slice none 0 0, .int .i64 0]) ?_ 3 _ rfl; refine blk_put (cs := #[.int .i64 t196, .bool t197, .int .i64 0, .int .u64 0, .slice none 0 0, .int .i64 0]) ?_ 2 _ rfl; refine blk_put (cs := #[.int .i64 t196, .bool false, .int .i64 0, .int .u64 0, .slice none 0 0, .int .i64 0]) ?_ 1 _ rfl; refine blk_put (cs := #[.int .i64 0, .bool false, .int .i64 0, .int .u64 0, .slice none 0 0, .int .i64 0]) ?_ 0 _ rfl; exact BK249.out) hb); have n11_ := Aside0.mk (below_step (by repeat (first | (with_reducible first | exact HB.out | apply below_alloc | apply pw_below_drewN | apply below_drew1 | refine below_set ?_ GE212.out | refine below_set ?_ GE213.out | refine below_set ?_ GE230.out | refine below_set ?_ GE231.out | refine below_set ?_ GE239.out | refine below_set ?_ GE249.out) | exact HB.out)) hb); clear HO_213004; clear HO_214004; clear HO_231004; clear HO_232004; clear HO248; clear BK212; clear BK213; clear BK230; clear BK231; clear BK239; clear BK249; clear HB; have HO_213004 := n0_; have HO_214004 := n1_; have HO_231004 := n2_; have HO_232004 := n3_; have HO248 := n4_; have BK212 := n5_; have BK213 := n6_; have BK230 := n7_; have BK231 := n8_; have BK239 := n9_; have BK249 := n10_; have HB := n11_; clear n0_ n1_ n2_ n3_ n4_ n5_ n6_ n7_ n8_ n9_ n10_ n11_; (try clear hb); (try clear hb2); (try clear hk); (try clear hi); have hcz161_0 : w160.cell? ⟨gb212, 0, none⟩ = some (.int .i64 t196) := (blk_cell BK212.out 0).trans rfl; have hcz161_1 : w160.cell? ⟨gb212, 1, none⟩ = some (.bool t197) := (blk_cell BK212.out 1).trans rfl; have hcz161_2 : w160.cell? ⟨gb212, 2, none⟩ = some (.int .i64 t198) := (blk_cell BK212.out 2).trans rfl; have hcz161_3 : w160.cell? ⟨gb212, 3, none⟩ = some (.int .u64 t199) := (blk_cell BK212.out 3).trans rfl; have hcz161_4 : w160.cell? ⟨gb212, 4, none⟩ = some (.slice Ao14 t200.length co14) := (blk_cell BK212.out 4).trans rfl; have hcz161_5 : w160.cell? ⟨gb212, 5, none⟩ = some (.int .i64 t203) := (blk_cell BK212.out 5).trans rfl; have hfz161_0 := blk_frozen BK212.out 0; have hfz161_1 := blk_frozen BK212.out 1; have hfz161_2 := blk_frozen BK212.out 2; have hfz161_3 := blk_frozen BK212.out 3; have hfz161_4 := blk_frozen BK212.out 4; have hfz161_5 := blk_frozen BK212.out 5; have hcz162_0 : w160.cell? ⟨gb249, 0, none⟩ = some (.int .i64 t196) := (blk_cell BK249.out 0).trans rfl; have hcz162_1 : w160.cell? ⟨gb249, 1, none⟩ = some (.bool t197) := (blk_cell BK249.out 1).trans rfl; have hcz162_2 : w160.cell? ⟨gb249, 2, none⟩ = some (.int .i64 t198) := (blk_cell BK249.out 2).trans rfl; have hcz162_3 : w160.cell? ⟨gb249, 3, none⟩ = some (.int .u64 (IntKind.u64.wrap (t199 + 1))) := (blk_cell BK249.out 3).trans rfl; have hcz162_4 : w160.cell? ⟨gb249, 4, none⟩ = some (.slice Ao14 t200.length co14) := (blk_cell BK249.out 4).trans rfl; have hcz162_5 : w160.cell? ⟨gb249, 5, none⟩ = some (.int .i64 t203) := (blk_cell BK249.out 5).trans rfl; have hfz162_0 := blk_frozen BK249.out 0; have hfz162_1 := blk_frozen BK249.out 1; have hfz162_2 := blk_frozen BK249.out 2; have hfz162_3 := blk_frozen BK249.out 3; have hfz162_4 := blk_frozen BK249.out 4; have hfz162_5 := blk_frozen BK249.out 5) | (go_at_call 34; (with_reducible refine (impl_Refines.calls kj111 t196 t197 t198 t199 _ _ t200 t203 t196 t197 t198 (IntKind.u64.wrap (t199 + 1)) _ _ t200 t203 t251 _ ?side1 ?side2 ?side3 ?side4 A132.out).mono ?_); (case side1 => repeat (first | exact (Kd.R_reads' HO_213004.out).2.2 | (with_reducible refine Kd.C_alloc ?_ _) | (with_reducible refine Kd.C_drewN ?_ _) | (with_reducible refine Kd.C_drew ?_))); (case side2 => exact (Kd.R_reads' HO_213004.out).2.1); (case side3 => repeat (first | exact (Kd.R_reads' HO_213004.out).2.2 | (with_reducible refine Kd.C_alloc ?_ _) | (with_reducible refine Kd.C_drewN ?_ _) | (with_reducible refine Kd.C_drew ?_))); (case side4 => exact (Kd.R_reads' HO_213004.out).2.1); rintro e w163 ⟨rfl, hb⟩; have n0_ := Aside0.mk (Kd.R_below (by exact HO_213004.out) hb); have n1_ := Aside0.mk (Kd.R_below (by exact HO_214004.out) hb); have n2_ := Aside0.mk (Kd.R_below (by exact HO_231004.out) hb); have n3_ := Aside0.mk (Kd.R_below (by exact HO_232004.out) hb); have n4_ := Aside0.mk (Kd.R_below (by exact HO248.out) hb); have n5_ := Aside0.mk (blk_below (g := gb212) (o := .cells #[.int .i64 t196, .bool t197, .int .i64 t198, .int .u64 t199, .slice Ao14 t200.length co14, .int .i64 t203] 53 (0, 0)) (by exact BK212.out) hb); have n6_ := Aside0.mk (blk_below (g := gb213) (o := .cells #[.int .i64 t204, .bool t205, .int .i64 t206, .int .u64 t207, .slice Ao16 t208.length co16, .int .i64 t211] 53 (0, 0)) (by exact BK213.out) hb); have n7_ := Aside0.mk (blk_below (g := gb230) (o := .cells #[.int .i64 t214, .bool t215, .int .i64 t216, .int .u64 t217, .slice Ao24 t218.length co24, .int .i64 t221] 53 (0, 0)) (by exact BK230.out) hb); have n8_ := Aside0.mk (blk_below (g := gb231) (o := .cells #[.int .i64 t222, .bool t223, .int .i64 t224, .int .u64 t225, .slice Ao28 t226.length co28, .int .i64 t229] 53 (0, 0)) (by exact BK231.out) hb); have n9_ := Aside0.mk (blk_below (g := gb239) (o := .cells #[.int .i64 t196, .bool t197, .int .i64 t198, .int .u64 t199, .slice Ao148 y246.length co148, .int .i64 t203] 53 (0, 0)) (by exact BK239.out) hb); have n10_ := Aside0.mk (blk_below (g := gb249) (o := .cells #[.int .i64 t196, .bool t197, .int .i64 t198, .int .u64 (IntKind.u64.wrap (t199 + 1)), .slice Ao14 t200.length co14, .int .i64 t203] 53 (0, 0)) (by exact BK249.out) hb); have n11_ := Aside0.mk (below_step (by repeat (first | (with_reducible first | exact HB.out | apply below_alloc | apply pw_below_drewN | apply below_drew1 | refine below_set ?_ GE212.out | refine below_set ?_ GE213.out | refine below_set ?_ GE230.out | refine below_set ?_ GE231.out | refine below_set ?_ GE239.out | refine below_set ?_ GE249.out) | exact HB.out)) hb); clear HO_213004; clear HO_214004; clear HO_231004; clear HO_232004; clear HO248; clear BK212; clear BK213; clear BK230; clear BK231; clear BK239; clear BK249; clear HB; have HO_213004 := n0_; have HO_214004 := n1_; have HO_231004 := n2_; have HO_232004 := n3_; have HO248 := n4_; have BK212 := n5_; have BK213 := n6_; have BK230 := n7_; have BK231 := n8_; have BK239 := n9_; have BK249 := n10_; have HB := n11_; clear n0_ n1_ n2_ n3_ n4_ n5_ n6_ n7_ n8_ n9_ n10_ n11_; (try clear hb); (try clear hb2); (try clear hk); (try clear hi)))
                  go_ret
                  exact ⟨by first | rfl | (simp [errW_none, errW_some] <;> rfl) | (simp [*, errW_none, errW_some] <;> rfl), by repeat (first | (with_reducible first | exact HB.out | apply below_alloc | apply pw_below_drewN | apply below_drew1 | refine below_set ?_ GE212.out | refine below_set ?_ GE213.out | refine below_set ?_ GE230.out | refine below_set ?_ GE231.out | refine below_set ?_ GE239.out | refine below_set ?_ GE249.out) | exact HB.out)⟩
                ·rw [if_neg c129] at H
                 exact absurd H (by simp)
               ·rw [if_neg c128] at H
                exact absurd H (by simp)

/-- THE ONE PURE STATEMENT of laws_FnRefines: yours. -/
def laws_FnRefines.Pure : Prop := ∀ (l0 : List Int) (l1 : List Int), l0.length ≤ maxLen → l0.length * 1 ≤ 140737488351232 → (∀ x ∈ l0, (Lit.int .u8 x).wf = true) → l1.length ≤ maxLen → l1.length * 1 ≤ 140737488351232 → (∀ x ∈ l1, (Lit.int .u8 x).wf = true) → ∃ k, laws_FnRefines.f k l0 l1 = some true
theorem laws_FnRefines.walk (P : laws_FnRefines.Pure) (a0 : Option Addr) (len0 cap0 : Nat) (z0 : List Int) (a1 : Option Addr) (len1 cap1 : Nat) (z1 : List Int) (w : World) (w0 : (a0 = none ∧ len0 = 0 ∧ cap0 = 0 ∧ z0 = []) ∨ ∃ x, a0 = some x ∧ len0 ≤ cap0 ∧ cap0 ≤ maxLen ∧ z0.length = cap0 ∧ (∀ i, i < z0.length → w.cell? (x.add i) = some (.int .u8 (z0.getD i 0))) ∧ ∀ n ∈ z0, (Lit.int .u8 n).wf = true) (y0 : len0 * 1 ≤ 140737488351232) (w1 : (a1 = none ∧ len1 = 0 ∧ cap1 = 0 ∧ z1 = []) ∨ ∃ x, a1 = some x ∧ len1 ≤ cap1 ∧ cap1 ≤ maxLen ∧ z1.length = cap1 ∧ (∀ i, i < z1.length → w.cell? (x.add i) = some (.int .u8 (z1.getD i 0))) ∧ ∀ n ∈ z1, (Lit.int .u8 n).wf = true) (y1 : len1 * 1 ≤ 140737488351232) :
    Calls Try.prog 8 #[.slice a0 len0 cap0, .slice a1 len1 cap1] w fun e w' => e = .returned (.bool true) ∧ Below w.heap.size w w' := by
 obtain ⟨l0, rfl, hr0, hm0, hw0, hc0⟩ := ReadsInt.ofRowC w0
 obtain ⟨l1, rfl, hr1, hm1, hw1, hc1⟩ := ReadsInt.ofRowC w1
 obtain ⟨k, h⟩ := P l0 l1 hm0 y0 hw0 hm1 y1 hw1
 refine (laws_FnRefines.calls k _ _ l0 _ _ l1 true w (Kd.C_of_reads (d := (0 : Int)) (h1 := fun _ => rfl) hr0) hc0 (Kd.C_of_reads (d := (0 : Int)) (h1 := fun _ => rfl) hr1) hc1 h ⟨rfl⟩).mono ?_
 rintro e w' ⟨rfl, hd⟩
 exact ⟨rfl, hd⟩

end Go.Proofs.Ythfhenhlfedfmaa.QFnRefines
