-- written by mp.py, a program of this session, over the translation; Lean checks it
import Derived.Test.YthfhenhlfedfmaaQFnBitsx0
import Derived.Test.YthfhenhlfedfmaaQFnBitsx1
import Derived.Test.YthfhenhlfedfmaaQFnBitsx2
import Derived.Test.YthfhenhlfedfmaaQFnBitsx3
namespace Go.Proofs.Ythfhenhlfedfmaa.QFnBits
open Go.RowKit Go.Proofs.YthfhenhlfedfmaaW.PrintWords Go.Proofs.YthfhenhlfedfmaaW.PrintLast Go.Proofs.YthfhenhlfedfmaaW.PrintMore
attribute [local go_sem] max2_int min2_int max_two min_two max_three min_three max_four min_four   -- for this text's walks alone
set_option linter.unusedVariables false
set_option linter.unusedSimpArgs false

/-! ### laws_FnBits: function 14 -/
mutual
def laws_FnBits.l0 : Nat → List Int → List Int → List Int → Int → Int → List Int → Int → Option (Bool)
  | 0, _, _, _, _, _, _, _ => none
  | k + 1, x0, x4, x5, x6, x7, x124000, x124001 => if x7 < x6 then ((laws_lwWord.f k x0 (wrap64 ((wrap64 (11 * x7)) + 1)) 64).bind fun t131 => ((laws_lwAt.f x0 (wrap64 ((wrap64 (11 * x7)) + 2)) 12).bind fun t132 => ((laws_lwAt.f x0 (wrap64 ((wrap64 (11 * x7)) + 3)) 2).bind fun t133 => (if t133 = 0 then ((laws_lwAt.f x0 (wrap64 ((wrap64 (11 * x7)) + 4)) 64).bind fun t134 => (if 0 ≤ (IntKind.u64.wrap (wrap64 (64 + (wrap64 ((-1) - t134))))) then ((impl_PutBits.f k x124000 x124001 (shr .u64 t131 (IntKind.u64.wrap (wrap64 (64 + (wrap64 ((-1) - t134)))))) (wrap64 (-(wrap64 ((-1) - t134))))).bind fun bt135 => (if bt135.2 = (wrap64 (x124001 - (wrap64 ((-1) - t134)))) then (if x4.length < 17592186044416 then (if x5.length < 17592186044416 then (laws_FnBits.l0 k x0 (x4 ++ [shr .u64 t131 (IntKind.u64.wrap (wrap64 (64 + (wrap64 ((-1) - t134)))))]) (x5 ++ [wrap64 ((-1) - t134)]) x6 (wrap64 (x7 + 1)) bt135.1 bt135.2) else (none)) else (none)) else (some false))) else (none))) else ((impl_PutVar.f k x124000 x124001 t131 (wrap64 (2 + t132))).bind fun bt145 => (if 0 ≤ (IntKind.u64.wrap (wrap64 ((wrap64 (2 + t132)) - 1))) then (laws_FnBits.l1 k x0 x4 x5 x6 x7 t131 (wrap64 (2 + t132)) x124001 1 (shr .u64 t131 (IntKind.u64.wrap (wrap64 ((wrap64 (2 + t132)) - 1)))) bt145.1 bt145.2) else (none))))))) else (if (x124000.length : Int) = (wrap64 (Int.tdiv (wrap64 (x124001 + 7)) 8)) then (laws_FnBits.l2 k x4 x5 x6 0 0 x124000 x124001) else (some false))
def laws_FnBits.l1 : Nat → List Int → List Int → List Int → Int → Int → Int → Int → Int → Int → Int → List Int → Int → Option (Bool)
  | 0, _, _, _, _, _, _, _, _, _, _, _, _ => none
  | k + 1, x0, x4, x5, x6, x7, x8, x9, x10, x11, x12, x124000, x124001 => if x12 = 0 then (if x124001 = (wrap64 (x10 + (wrap64 (x11 * x9)))) then (if x4.length < 17592186044416 then (if x5.length < 17592186044416 then (laws_FnBits.l0 k x0 (x4 ++ [x8]) (x5 ++ [x9]) x6 (wrap64 (x7 + 1)) x124000 x124001) else (none)) else (none)) else (some false)) else (if 0 ≤ (IntKind.u64.wrap (wrap64 (x9 - 1))) then (laws_FnBits.l1 k x0 x4 x5 x6 x7 x8 x9 x10 (wrap64 (x11 + 1)) (shr .u64 x12 (IntKind.u64.wrap (wrap64 (x9 - 1)))) x124000 x124001) else (none))
def laws_FnBits.l2 : Nat → List Int → List Int → Int → Int → Int → List Int → Int → Option (Bool)
  | 0, _, _, _, _, _, _, _ => none
  | k + 1, x4, x5, x6, x13, x14, x124000, x124001 => if x14 < x6 then (if 0 ≤ x14 then (if x14 < (x5.length : Int) then (if (rd x5 x14) < 0 then ((impl_GetBits.f k x124000 x124001 x13 (wrap64 (-(rd x5 x14)))).bind fun bt161 => (if bt161.1 = true then (if x14 < (x4.length : Int) then (if bt161.2.1 = (rd x4 x14) then (if bt161.2.2 ≤ x13 then (some false) else (laws_FnBits.l2 k x4 x5 x6 bt161.2.2 (wrap64 (x14 + 1)) x124000 x124001)) else (some false)) else (none)) else (some false))) else ((impl_GetVar.f k x124000 x124001 x13 (rd x5 x14)).bind fun bt166 => (if bt166.1 = true then (if x14 < (x4.length : Int) then (if bt166.2.1 = (rd x4 x14) then (if bt166.2.2 ≤ x13 then (some false) else (laws_FnBits.l2 k x4 x5 x6 bt166.2.2 (wrap64 (x14 + 1)) x124000 x124001)) else (some false)) else (none)) else (some false)))) else (none)) else (none)) else (if x13 = x124001 then ((impl_GetBits.f k x124000 x124001 x13 1).bind fun bt155 => (some (!bt155.1))) else (some false))
end
def laws_FnBits.f (k : Nat) (l0 : List Int) : Option (Bool) := if (l0.length : Int) > 1048576 then (some true) else ((laws_lwAt.f l0 0 20).bind fun t130 => (laws_FnBits.l0 k l0 (([] : List Int)) (([] : List Int)) (wrap64 (1 + t130)) 0 ([] : List Int) 0))
theorem laws_FnBits.mono_l : ∀ k, (∀ y0 y1 y2 y3 y4 y5 y6, LeO (laws_FnBits.l0 k y0 y1 y2 y3 y4 y5 y6) (laws_FnBits.l0 (k + 1) y0 y1 y2 y3 y4 y5 y6)) ∧ (∀ y0 y1 y2 y3 y4 y5 y6 y7 y8 y9 y10 y11, LeO (laws_FnBits.l1 k y0 y1 y2 y3 y4 y5 y6 y7 y8 y9 y10 y11) (laws_FnBits.l1 (k + 1) y0 y1 y2 y3 y4 y5 y6 y7 y8 y9 y10 y11)) ∧ (∀ y0 y1 y2 y3 y4 y5 y6, LeO (laws_FnBits.l2 k y0 y1 y2 y3 y4 y5 y6) (laws_FnBits.l2 (k + 1) y0 y1 y2 y3 y4 y5 y6))
  | 0 => ⟨fun _ _ _ _ _ _ _ r h => by simp [laws_FnBits.l0] at h, fun _ _ _ _ _ _ _ _ _ _ _ _ r h => by simp [laws_FnBits.l1] at h, fun _ _ _ _ _ _ _ r h => by simp [laws_FnBits.l2] at h⟩
  | k + 1 => by
    obtain ⟨ih0, ih1, ih2⟩ := laws_FnBits.mono_l k
    refine ⟨?_, ?_, ?_⟩
    · intro y0 y1 y2 y3 y4 y5 y6
      unfold laws_FnBits.l0
      repeat' first
      | (with_reducible exact ih0 _ _ _ _ _ _ _)
      | (with_reducible exact ih1 _ _ _ _ _ _ _ _ _ _ _ _)
      | (with_reducible exact ih2 _ _ _ _ _ _ _)
      | (with_reducible exact impl_GetBits.mono _ _ _ _ _)
      | (with_reducible exact impl_GetVar.mono _ _ _ _ _)
      | (with_reducible exact impl_PutBits.mono _ _ _ _ _)
      | (with_reducible exact impl_PutVar.mono _ _ _ _ _)
      | (with_reducible exact laws_lwWord.mono _ _ _ _)
      | (with_reducible exact LeO.refl _)
      | (with_reducible exact LeO.none _)
      | (with_reducible refine LeO.ite ?_ ?_)
      | (with_reducible refine LeO.bind ?_ (fun _ => ?_))
      | exact ih0 _ _ _ _ _ _ _
      | exact ih1 _ _ _ _ _ _ _ _ _ _ _ _
      | exact ih2 _ _ _ _ _ _ _
      | exact impl_GetBits.mono _ _ _ _ _
      | exact impl_GetVar.mono _ _ _ _ _
      | exact impl_PutBits.mono _ _ _ _ _
      | exact impl_PutVar.mono _ _ _ _ _
      | exact laws_lwWord.mono _ _ _ _
      | exact LeO.none _
      | refine LeO.ite ?_ ?_
      | refine LeO.bind ?_ (fun _ => ?_)
    · intro y0 y1 y2 y3 y4 y5 y6 y7 y8 y9 y10 y11
      unfold laws_FnBits.l1
      repeat' first
      | (with_reducible exact ih0 _ _ _ _ _ _ _)
      | (with_reducible exact ih1 _ _ _ _ _ _ _ _ _ _ _ _)
      | (with_reducible exact ih2 _ _ _ _ _ _ _)
      | (with_reducible exact impl_GetBits.mono _ _ _ _ _)
      | (with_reducible exact impl_GetVar.mono _ _ _ _ _)
      | (with_reducible exact impl_PutBits.mono _ _ _ _ _)
      | (with_reducible exact impl_PutVar.mono _ _ _ _ _)
      | (with_reducible exact laws_lwWord.mono _ _ _ _)
      | (with_reducible exact LeO.refl _)
      | (with_reducible exact LeO.none _)
      | (with_reducible refine LeO.ite ?_ ?_)
      | (with_reducible refine LeO.bind ?_ (fun _ => ?_))
      | exact ih0 _ _ _ _ _ _ _
      | exact ih1 _ _ _ _ _ _ _ _ _ _ _ _
      | exact ih2 _ _ _ _ _ _ _
      | exact impl_GetBits.mono _ _ _ _ _
      | exact impl_GetVar.mono _ _ _ _ _
      | exact impl_PutBits.mono _ _ _ _ _
      | exact impl_PutVar.mono _ _ _ _ _
      | exact laws_lwWord.mono _ _ _ _
      | exact LeO.none _
      | refine LeO.ite ?_ ?_
      | refine LeO.bind ?_ (fun _ => ?_)
    · intro y0 y1 y2 y3 y4 y5 y6
      unfold laws_FnBits.l2
      repeat' first
      | (with_reducible exact ih0 _ _ _ _ _ _ _)
      | (with_reducible exact ih1 _ _ _ _ _ _ _ _ _ _ _ _)
      | (with_reducible exact ih2 _ _ _ _ _ _ _)
      | (with_reducible exact impl_GetBits.mono _ _ _ _ _)
      | (with_reducible exact impl_GetVar.mono _ _ _ _ _)
      | (with_reducible exact impl_PutBits.mono _ _ _ _ _)
      | (with_reducible exact impl_PutVar.mono _ _ _ _ _)
      | (with_reducible exact laws_lwWord.mono _ _ _ _)
      | (with_reducible exact LeO.refl _)
      | (with_reducible exact LeO.none _)
      | (with_reducible refine LeO.ite ?_ ?_)
      | (with_reducible refine LeO.bind ?_ (fun _ => ?_))
      | exact ih0 _ _ _ _ _ _ _
      | exact ih1 _ _ _ _ _ _ _ _ _ _ _ _
      | exact ih2 _ _ _ _ _ _ _
      | exact impl_GetBits.mono _ _ _ _ _
      | exact impl_GetVar.mono _ _ _ _ _
      | exact impl_PutBits.mono _ _ _ _ _
      | exact impl_PutVar.mono _ _ _ _ _
      | exact laws_lwWord.mono _ _ _ _
      | exact LeO.none _
      | refine LeO.ite ?_ ?_
      | refine LeO.bind ?_ (fun _ => ?_)
theorem laws_FnBits.mono : ∀ a0 k, LeO (laws_FnBits.f k a0) (laws_FnBits.f (k + 1) a0) := by
  intro a0 k
  obtain ⟨ih0, ih1, ih2⟩ := laws_FnBits.mono_l k
  unfold laws_FnBits.f
  repeat' first
      | (with_reducible exact ih0 _ _ _ _ _ _ _)
      | (with_reducible exact ih1 _ _ _ _ _ _ _ _ _ _ _ _)
      | (with_reducible exact ih2 _ _ _ _ _ _ _)
      | (with_reducible exact impl_GetBits.mono _ _ _ _ _)
      | (with_reducible exact impl_GetVar.mono _ _ _ _ _)
      | (with_reducible exact impl_PutBits.mono _ _ _ _ _)
      | (with_reducible exact impl_PutVar.mono _ _ _ _ _)
      | (with_reducible exact laws_lwWord.mono _ _ _ _)
      | (with_reducible exact LeO.refl _)
      | (with_reducible exact LeO.none _)
      | (with_reducible refine LeO.ite ?_ ?_)
      | (with_reducible refine LeO.bind ?_ (fun _ => ?_))
      | exact ih0 _ _ _ _ _ _ _
      | exact ih1 _ _ _ _ _ _ _ _ _ _ _ _
      | exact ih2 _ _ _ _ _ _ _
      | exact impl_GetBits.mono _ _ _ _ _
      | exact impl_GetVar.mono _ _ _ _ _
      | exact impl_PutBits.mono _ _ _ _ _
      | exact impl_PutVar.mono _ _ _ _ _
      | exact laws_lwWord.mono _ _ _ _
      | exact LeO.none _
      | refine LeO.ite ?_ ?_
      | refine LeO.bind ?_ (fun _ => ?_)
def laws_FnBits.T37 : Bool × List (List Nat × List Nat) := (true, [([], []), ([], []), ([], []), ([], []), ([2, 3], [2, 3]), ([4], [4]), ([5], [5]), ([0, 1, 6], [0, 1, 6]), ([7, 7, 0, 1, 2, 3, 4, 5, 6, 7], [7])])
def laws_FnBits.B37 : List Nat := [0, 0, 0, 0, 12, 28, 60, 127, 255]
theorem laws_FnBits.tab37 : rtab .any (opsOf Try.f14 37) = laws_FnBits.T37 := by kernel_rfl
theorem laws_FnBits.bits37 : waitsOk laws_FnBits.T37.2 laws_FnBits.B37 = true := by kernel_rfl
def laws_FnBits.T38 : Bool × List (List Nat × List Nat) := (true, [([], []), ([], []), ([], []), ([], []), ([2, 3], [2, 3]), ([4], [4]), ([0, 1, 5], [0, 1, 5]), ([6, 6, 0, 1, 2, 3, 4, 5, 6], [6])])
def laws_FnBits.B38 : List Nat := [0, 0, 0, 0, 12, 28, 63, 127]
theorem laws_FnBits.tab38 : rtab .any (opsOf Try.f14 38) = laws_FnBits.T38 := by kernel_rfl
theorem laws_FnBits.bits38 : waitsOk laws_FnBits.T38.2 laws_FnBits.B38 = true := by kernel_rfl
def laws_FnBits.T39 : Bool × List (List Nat × List Nat) := (true, [([], []), ([0], [0]), ([1], [1]), ([2], [2]), ([3], [3]), ([4, 3], [3, 4]), ([3], [3]), ([3], [3]), ([6, 7, 3], [3, 6, 7]), ([8, 3], [3, 8]), ([5, 9, 3], [3, 5, 9]), ([3, 10], [3, 10]), ([11, 3], [11]), ([12], [12]), ([13, 12], [12, 13]), ([12], [12]), ([14, 15, 12], [12, 14, 15]), ([12, 16], [12, 16])])
def laws_FnBits.B39 : List Nat := [0, 1, 3, 7, 15, 31, 15, 15, 207, 463, 1023, 2047, 4095, 8191, 16383, 8191, 65535, 131071]
theorem laws_FnBits.tab39 : rtab .any (opsOf Try.f14 39) = laws_FnBits.T39 := by kernel_rfl
theorem laws_FnBits.bits39 : waitsOk laws_FnBits.T39.2 laws_FnBits.B39 = true := by kernel_rfl
set_option maxHeartbeats 8000000 in
set_option maxRecDepth 100000 in
theorem laws_FnBits.calls (k : Nat) (A0 : Option Addr) (c0 : Nat) (l0 : List Int) (r : Bool) (w : World) (hr0 : Kd.C (Kd.int .u8) w A0 l0.length l0) (hc0 : l0.length ≤ c0) (h : laws_FnBits.f k l0 = some r) (hlaw : Aside0 (r = true)) :
    Calls Try.prog 14 #[.slice A0 l0.length c0] w fun e w' => e = .returned (.bool r) ∧ Below w.heap.size w w' := by
  have hu64 := Try.underlying64
  have hu62 := Try.underlying62
  have HR0 := Aside0.mk hr0
  have HC0 := Aside0.mk hc0
  clear hr0 hc0
  have HB := Aside0.mk (Below.refl w.heap.size w)
  have H : (if (l0.length : Int) > 1048576 then (some true) else ((laws_lwAt.f l0 0 20).bind fun t130 => (laws_FnBits.l0 k l0 (([] : List Int)) (([] : List Int)) (wrap64 (1 + t130)) 0 ([] : List Int) 0))) = some r := h
  clear h
  by_cases c2 : (l0.length : Int) > 1048576
  · rw [if_pos c2] at H
    have c2b0 : decide (1048576 < (l0.length : Int)) = true := decide_eq_true c2
    have c2b1 : decide (1048576 < l0.length) = true := decide_eq_true (by omega)
    clear c2
    obtain rfl := Option.some.inj H
    go_enter Try.func14, Try.ntmps14
    go_wp2
    go_ret
    exact ⟨by first | rfl | (simp [errW_none, errW_some] <;> rfl) | (simp [*, errW_none, errW_some] <;> rfl), by repeat (first | (with_reducible first | exact HB.out | apply below_alloc | apply pw_below_drewN | apply below_drew1) | exact HB.out)⟩
  · rw [if_neg c2] at H
    have c2b0 : decide (1048576 < (l0.length : Int)) = false := decide_eq_false c2
    have c2b1 : decide (1048576 < l0.length) = false := decide_eq_false (by omega)
    clear c2
    obtain ⟨y124, hy124⟩ : ∃ y_ : List Int, y_ = (([] : List Int)) := ⟨_, rfl⟩
    replace H : ((laws_lwAt.f l0 0 20).bind fun t130 => (laws_FnBits.l0 k l0 y124 (([] : List Int)) (wrap64 (1 + t130)) 0 ([] : List Int) 0)) = some r := by first | (rw [hy124]; with_reducible exact H) | (have H2_ := (Option.bind_some _ _).symm.trans H; rw [hy124]; with_reducible exact H2_) | (have H2_ := (Option.bind_some _ _).symm.trans H; with_reducible exact H2_) | with_reducible exact H | (rw [hy124]; exact H) | exact H
    have Ny124 := Aside0.mk hy124
    clear hy124
    obtain ⟨y127, hy127⟩ : ∃ y_ : List Int, y_ = (([] : List Int)) := ⟨_, rfl⟩
    replace H : ((laws_lwAt.f l0 0 20).bind fun t130 => (laws_FnBits.l0 k l0 y124 y127 (wrap64 (1 + t130)) 0 ([] : List Int) 0)) = some r := by first | (rw [hy127]; with_reducible exact H) | (have H2_ := (Option.bind_some _ _).symm.trans H; rw [hy127]; with_reducible exact H2_) | (have H2_ := (Option.bind_some _ _).symm.trans H; with_reducible exact H2_) | with_reducible exact H | (rw [hy127]; exact H) | exact H
    have Ny127 := Aside0.mk hy127
    clear hy127
    replace H := Option.bind_eq_some_iff.mp H
    obtain ⟨t130, A30, H⟩ := H
    replace H : (laws_FnBits.l0 k l0 y124 y127 (wrap64 (1 + t130)) 0 ([] : List Int) 0) = some r := H
    have A3 := Aside0.mk A30
    clear A30
    have H' := Aside0.mk H
    clear H
    go_enter Try.func14, Try.ntmps14
    go_wp2_with (first | ((with_reducible refine gate_dst (N := 3) rfl ?_); refine box_event ?hg (N := 3) ?hd (cs := #[.slice none 0 0, .int .i64 0]) (t := 64) ?hr ?_; (case hd => rfl); (case hg => rfl); (case hr => first | (go_simp; done) | (go_simp; rfl)); intro gb123 hg w4 hbox hb; have n0_ := Aside0.mk (below_step (by repeat (first | (with_reducible first | exact HB.out | apply below_alloc | apply pw_below_drewN | apply below_drew1) | exact HB.out)) hb); have n1_ := Aside0.mk (hbox); have n2_ := Aside0.mk ((by rw [hg]; exact (below_size (by repeat (first | (with_reducible first | exact HB.out | apply below_alloc | apply pw_below_drewN | apply below_drew1) | exact HB.out))) : w.heap.size ≤ gb123)); have n3_ := Aside0.mk ((by rw [hg]; exact (below_size (by repeat (first | (with_reducible first | exact HB.out | apply below_alloc | apply pw_below_drewN | apply below_drew1) | exact HB.out))) : w.heap.size ≤ gb123)); clear HB; have HB := n0_; have BK123 := n1_; have GW123 := n2_; have GE123 := n3_; clear n0_ n1_ n2_ n3_; clear hb hbox hg; have hcz5_0 : w4.cell? ⟨gb123, 0, none⟩ = some (.slice none 0 0) := (blk_cell BK123.out 0).trans rfl; have hcz5_1 : w4.cell? ⟨gb123, 1, none⟩ = some (.int .i64 0) := (blk_cell BK123.out 1).trans rfl; have hfz5_0 := blk_frozen BK123.out 0; have hfz5_1 := blk_frozen BK123.out 1) | ((with_reducible refine gate_dst (N := 20) rfl ?_); refine Kd.R_lit (Kd.int .u64) _ 38 ?hg (N := 20) ?hd (xs := ([] : List Int)) (inner := []) (ok := fun _ => True) (okp := fun _ => True) ?hr ?hp (fun _ hk => hk) trivial (Below.refl _ _) (Nat.le_refl _) (by simp) ?_; (case hd => rfl); (case hg => rfl); (case hr => first | (go_simp; done) | (go_simp; rfl)); (case hp => exact (Reps.none _ _)); intro v125 w6 ho7 hb hg_ hnew_; clear hg_ hnew_; (first | rw [← Ny124.out] at ho7 | (simp only [Int.reduceToNat] at ho7; rw [← Ny124.out] at ho7)); have n0_ := Aside0.mk (Kd.R_lower ho7 (below_size (by repeat (first | (with_reducible first | exact HB.out | apply below_alloc | apply pw_below_drewN | apply below_drew1 | refine below_set ?_ GE123.out) | exact HB.out)))); have n1_ := Aside0.mk (blk_below (g := gb123) (o := .cells #[.slice none 0 0, .int .i64 0] 64 (0, 0)) (by (with_reducible repeat (first | refine blk_drewN ?_ _ | refine blk_drew ?_ | refine blk_alloc ?_ _)); refine blk_put (cs := #[.slice none 0 0, .int .i64 0]) ?_ 1 _ rfl; (with_reducible repeat (first | refine blk_drewN ?_ _ | refine blk_drew ?_ | refine blk_alloc ?_ _)); refine blk_put (cs := #[.slice none 0 0, .int .i64 0]) ?_ 0 _ rfl; (with_reducible repeat (first | refine blk_drewN ?_ _ | refine blk_drew ?_ | refine blk_alloc ?_ _)); exact BK123.out) hb); have n2_ := Aside0.mk (below_step (by repeat (first | (with_reducible first | exact HB.out | apply below_alloc | apply pw_below_drewN | apply below_drew1 | refine below_set ?_ GE123.out) | exact HB.out)) hb); clear BK123; clear HB; have HO126 := n0_; have BK123 := n1_; have HB := n2_; clear n0_ n1_ n2_; clear hb ho7) | ((with_reducible refine gate_dst (N := 21) rfl ?_); refine Kd.R_lit (Kd.int .i64) _ 2 ?hg (N := 21) ?hd (xs := ([] : List Int)) (inner := []) (ok := fun _ => True) (okp := fun _ => True) ?hr ?hp (fun _ hk => hk) trivial (Below.refl _ _) (Nat.le_refl _) (by simp) ?_; (case hd => rfl); (case hg => rfl); (case hr => first | (go_simp; done) | (go_simp; rfl)); (case hp => exact (Reps.none _ _)); intro v128 w8 ho9 hb hg_ hnew_; clear hg_ hnew_; (first | rw [← Ny127.out] at ho9 | (simp only [Int.reduceToNat] at ho9; rw [← Ny127.out] at ho9)); have n0_ := Aside0.mk (Kd.R_below (by (with_reducible repeat (first | apply Kd.R_alloc | apply Kd.R_drewN | apply Kd.R_drew)); exact HO126.out) hb); have n1_ := Aside0.mk (Kd.R_lower ho9 (below_size (by repeat (first | (with_reducible first | exact HB.out | apply below_alloc | apply pw_below_drewN | apply below_drew1 | refine below_set ?_ GE123.out) | exact HB.out)))); have n2_ := Aside0.mk (blk_below (g := gb123) (o := .cells #[.slice none 0 0, .int .i64 0] 64 (0, 0)) (by (with_reducible repeat (first | refine blk_drewN ?_ _ | refine blk_drew ?_ | refine blk_alloc ?_ _)); exact BK123.out) hb); have n3_ := Aside0.mk (below_step (by repeat (first | (with_reducible first | exact HB.out | apply below_alloc | apply pw_below_drewN | apply below_drew1 | refine below_set ?_ GE123.out) | exact HB.out)) hb); clear HO126; clear BK123; clear HB; have HO126 := n0_; have HO129 := n1_; have BK123 := n2_; have HB := n3_; clear n0_ n1_ n2_ n3_; clear hb ho9) | ((with_reducible refine gate_callee (f := 56) rfl ?_); refine goesL_ (some 23) rfl rfl Try.func56 (by kernel_rfl) rfl #[.slice A0 l0.length c0, .int .i64 0, .int .i64 20] rfl (by (try simp only [List.map_toArray, List.map_cons, List.map_nil]); first | done | rfl | (simp only [List.length_drop, List.length_take]; rfl)) ?_; (with_reducible refine (laws_lwAt.calls _ _ l0 0 20 t130 _ ?side1 ?side2 A3.out).mono ?_); (case side1 => repeat (first | exact (Kd.C_below HR0.out HB.out) | (with_reducible refine Kd.C_alloc ?_ _) | (with_reducible refine Kd.C_drewN ?_ _) | (with_reducible refine Kd.C_drew ?_))); (case side2 => exact HC0.out); rintro e w' ⟨rfl, ⟨nd, rfl⟩⟩; refine ⟨_, rfl, ?_⟩))
    go_loopg [4, 5, 7] k (fun kq v4 v5 v7 w' => ∃ (x4_1 : List Int) (x5_1 : List Int) (x7_1 : Int) (x124000_1 : List Int) (x124001_1 : Int) (u124000 : Value), v7 = .int .i64 x7_1 ∧ Aside0 (laws_FnBits.l0 kq l0 x4_1 x5_1 (wrap64 (1 + t130)) x7_1 x124000_1 x124001_1 = some r) ∧ Aside0 (kq ≤ k) ∧ Aside0 (Kd.R (Kd.int .u64) 38 w' w.heap.size (fun _ => True) v4 x4_1) ∧ Aside0 (Kd.R (Kd.int .i64) 2 w' w.heap.size (fun _ => True) v5 x5_1) ∧ Aside0 (Kd.R (Kd.int .u8) 5 w' w.heap.size (fun _ => True) u124000 x124000_1) ∧ Aside0 (w'.heap[gb123]? = some (.cells #[u124000, .int .i64 x124001_1] 64 (0, 0))) ∧ Aside0 (Below w.heap.size w w'))
    case atStart => exact ⟨(y124), (y127), (0), (([] : List Int)), (0), (.slice none 0 0), (by first | rfl | (simp; done) | (simp [*]; done)), H', ⟨Nat.le_refl _⟩, ⟨by (with_reducible repeat (first | apply Kd.R_alloc | apply Kd.R_drewN | apply Kd.R_drew)); exact HO126.out⟩, ⟨by (with_reducible repeat (first | apply Kd.R_alloc | apply Kd.R_drewN | apply Kd.R_drew)); exact HO129.out⟩, ⟨by first | exact Kd.R_nil _ _ _ _ _ | exact Kd.N_nil _ _ _ _ _ | exact Kd.V_nil _ _ _ _ _ | exact Kd.Q_nil _ _ _ _ _ | exact Kd.S_nil _ _ _ _ _⟩, ⟨by (with_reducible repeat (first | refine blk_drewN ?_ _ | refine blk_drew ?_ | refine blk_alloc ?_ _)); exact BK123.out⟩, ⟨by repeat (first | (with_reducible first | exact HB.out | apply below_alloc | apply pw_below_drewN | apply below_drew1 | refine below_set ?_ GE123.out) | exact HB.out)⟩⟩
    case round =>
      clear H'
      try clear c1
      try clear c2
      try clear c2b0
      try clear c2b1
      try clear p2
      try clear c5
      try clear p6
      try clear hcz5_0
      try clear hcz5_1
      try clear hfz5_0
      try clear hfz5_1
      obtain ⟨x4_1, x5_1, x7_1, x124000_1, x124001_1, u124000, rfl, HA, HK1, HO_4, HO_5, HO_124000, BK123, HB⟩ := hrel
      cases gk with
      | zero => exact absurd HA.out (by simp [laws_FnBits.l0])
      | succ k1 =>
        have H := HA.out
        clear HA
        simp only [laws_FnBits.l0] at H
        by_cases c10 : x7_1 < (wrap64 (1 + t130))
        · rw [if_pos c10] at H
          have c10b0 : decide (x7_1 < (wrap64 (1 + t130))) = true := decide_eq_true c10
          clear c10
          replace H := Option.bind_eq_some_iff.mp H
          obtain ⟨t131, A110, H⟩ := H
          replace H : ((laws_lwAt.f l0 (wrap64 ((wrap64 (11 * x7_1)) + 2)) 12).bind fun t132 => ((laws_lwAt.f l0 (wrap64 ((wrap64 (11 * x7_1)) + 3)) 2).bind fun t133 => (if t133 = 0 then ((laws_lwAt.f l0 (wrap64 ((wrap64 (11 * x7_1)) + 4)) 64).bind fun t134 => (if 0 ≤ (IntKind.u64.wrap (wrap64 (64 + (wrap64 ((-1) - t134))))) then ((impl_PutBits.f k1 x124000_1 x124001_1 (shr .u64 t131 (IntKind.u64.wrap (wrap64 (64 + (wrap64 ((-1) - t134)))))) (wrap64 (-(wrap64 ((-1) - t134))))).bind fun bt135 => (if bt135.2 = (wrap64 (x124001_1 - (wrap64 ((-1) - t134)))) then (if x4_1.length < 17592186044416 then (if x5_1.length < 17592186044416 then (laws_FnBits.l0 k1 l0 (x4_1 ++ [shr .u64 t131 (IntKind.u64.wrap (wrap64 (64 + (wrap64 ((-1) - t134)))))]) (x5_1 ++ [wrap64 ((-1) - t134)]) (wrap64 (1 + t130)) (wrap64 (x7_1 + 1)) bt135.1 bt135.2) else (none)) else (none)) else (some false))) else (none))) else ((impl_PutVar.f k1 x124000_1 x124001_1 t131 (wrap64 (2 + t132))).bind fun bt145 => (if 0 ≤ (IntKind.u64.wrap (wrap64 ((wrap64 (2 + t132)) - 1))) then (laws_FnBits.l1 k1 l0 x4_1 x5_1 (wrap64 (1 + t130)) x7_1 t131 (wrap64 (2 + t132)) x124001_1 1 (shr .u64 t131 (IntKind.u64.wrap (wrap64 ((wrap64 (2 + t132)) - 1)))) bt145.1 bt145.2) else (none)))))) = some r := H
          have A11 := Aside0.mk A110
          clear A110
          replace H := Option.bind_eq_some_iff.mp H
          obtain ⟨t132, A120, H⟩ := H
          replace H : ((laws_lwAt.f l0 (wrap64 ((wrap64 (11 * x7_1)) + 3)) 2).bind fun t133 => (if t133 = 0 then ((laws_lwAt.f l0 (wrap64 ((wrap64 (11 * x7_1)) + 4)) 64).bind fun t134 => (if 0 ≤ (IntKind.u64.wrap (wrap64 (64 + (wrap64 ((-1) - t134))))) then ((impl_PutBits.f k1 x124000_1 x124001_1 (shr .u64 t131 (IntKind.u64.wrap (wrap64 (64 + (wrap64 ((-1) - t134)))))) (wrap64 (-(wrap64 ((-1) - t134))))).bind fun bt135 => (if bt135.2 = (wrap64 (x124001_1 - (wrap64 ((-1) - t134)))) then (if x4_1.length < 17592186044416 then (if x5_1.length < 17592186044416 then (laws_FnBits.l0 k1 l0 (x4_1 ++ [shr .u64 t131 (IntKind.u64.wrap (wrap64 (64 + (wrap64 ((-1) - t134)))))]) (x5_1 ++ [wrap64 ((-1) - t134)]) (wrap64 (1 + t130)) (wrap64 (x7_1 + 1)) bt135.1 bt135.2) else (none)) else (none)) else (some false))) else (none))) else ((impl_PutVar.f k1 x124000_1 x124001_1 t131 (wrap64 (2 + t132))).bind fun bt145 => (if 0 ≤ (IntKind.u64.wrap (wrap64 ((wrap64 (2 + t132)) - 1))) then (laws_FnBits.l1 k1 l0 x4_1 x5_1 (wrap64 (1 + t130)) x7_1 t131 (wrap64 (2 + t132)) x124001_1 1 (shr .u64 t131 (IntKind.u64.wrap (wrap64 ((wrap64 (2 + t132)) - 1)))) bt145.1 bt145.2) else (none))))) = some r := H
          have A12 := Aside0.mk A120
          clear A120
          replace H := Option.bind_eq_some_iff.mp H
          obtain ⟨t133, A130, H⟩ := H
          replace H : (if t133 = 0 then ((laws_lwAt.f l0 (wrap64 ((wrap64 (11 * x7_1)) + 4)) 64).bind fun t134 => (if 0 ≤ (IntKind.u64.wrap (wrap64 (64 + (wrap64 ((-1) - t134))))) then ((impl_PutBits.f k1 x124000_1 x124001_1 (shr .u64 t131 (IntKind.u64.wrap (wrap64 (64 + (wrap64 ((-1) - t134)))))) (wrap64 (-(wrap64 ((-1) - t134))))).bind fun bt135 => (if bt135.2 = (wrap64 (x124001_1 - (wrap64 ((-1) - t134)))) then (if x4_1.length < 17592186044416 then (if x5_1.length < 17592186044416 then (laws_FnBits.l0 k1 l0 (x4_1 ++ [shr .u64 t131 (IntKind.u64.wrap (wrap64 (64 + (wrap64 ((-1) - t134)))))]) (x5_1 ++ [wrap64 ((-1) - t134)]) (wrap64 (1 + t130)) (wrap64 (x7_1 + 1)) bt135.1 bt135.2) else (none)) else (none)) else (some false))) else (none))) else ((impl_PutVar.f k1 x124000_1 x124001_1 t131 (wrap64 (2 + t132))).bind fun bt145 => (if 0 ≤ (IntKind.u64.wrap (wrap64 ((wrap64 (2 + t132)) - 1))) then (laws_FnBits.l1 k1 l0 x4_1 x5_1 (wrap64 (1 + t130)) x7_1 t131 (wrap64 (2 + t132)) x124001_1 1 (shr .u64 t131 (IntKind.u64.wrap (wrap64 ((wrap64 (2 + t132)) - 1)))) bt145.1 bt145.2) else (none)))) = some r := H
          have A13 := Aside0.mk A130
          clear A130
          by_cases c14 : t133 = 0
          · rw [if_pos c14] at H
            have c14b0 : (t133 == 0) = true := beq_iff_eq.mpr c14
            have c14b1 : (t133 != 0) = false := bne_eq_false_iff_eq.mpr c14
            clear c14
            replace H := Option.bind_eq_some_iff.mp H
            obtain ⟨t134, A150, H⟩ := H
            replace H : (if 0 ≤ (IntKind.u64.wrap (wrap64 (64 + (wrap64 ((-1) - t134))))) then ((impl_PutBits.f k1 x124000_1 x124001_1 (shr .u64 t131 (IntKind.u64.wrap (wrap64 (64 + (wrap64 ((-1) - t134)))))) (wrap64 (-(wrap64 ((-1) - t134))))).bind fun bt135 => (if bt135.2 = (wrap64 (x124001_1 - (wrap64 ((-1) - t134)))) then (if x4_1.length < 17592186044416 then (if x5_1.length < 17592186044416 then (laws_FnBits.l0 k1 l0 (x4_1 ++ [shr .u64 t131 (IntKind.u64.wrap (wrap64 (64 + (wrap64 ((-1) - t134)))))]) (x5_1 ++ [wrap64 ((-1) - t134)]) (wrap64 (1 + t130)) (wrap64 (x7_1 + 1)) bt135.1 bt135.2) else (none)) else (none)) else (some false))) else (none)) = some r := H
            have A15 := Aside0.mk A150
            clear A150
            obtain ⟨ji16, hji16⟩ : ∃ j_ : Int, (IntKind.u64.wrap (wrap64 (64 + (wrap64 ((-1) - t134))))) = j_ := ⟨_, rfl⟩
            replace H : (if 0 ≤ (ji16) then ((impl_PutBits.f k1 x124000_1 x124001_1 (shr .u64 t131 (ji16)) (wrap64 (-(wrap64 ((-1) - t134))))).bind fun bt135 => (if bt135.2 = (wrap64 (x124001_1 - (wrap64 ((-1) - t134)))) then (if x4_1.length < 17592186044416 then (if x5_1.length < 17592186044416 then (laws_FnBits.l0 k1 l0 (x4_1 ++ [shr .u64 t131 (ji16)]) (x5_1 ++ [wrap64 ((-1) - t134)]) (wrap64 (1 + t130)) (wrap64 (x7_1 + 1)) bt135.1 bt135.2) else (none)) else (none)) else (some false))) else (none)) = some r := by first | (rw [hji16] at H; exact H) | (simp only [hji16] at H ⊢; exact H)
            (try rw [hji16] at A11)
            (try rw [hji16] at A12)
            (try rw [hji16] at A13)
            (try rw [hji16] at A15)
            by_cases c17 : 0 ≤ (ji16)
            · rw [if_pos c17] at H
              have c17b0 := eq_true c17
              have c17b1 : decide (0 ≤ (ji16)) = true := decide_eq_true c17
              clear c17
              obtain ⟨ji18, hji18⟩ : ∃ j_ : Int, (shr .u64 t131 (ji16)) = j_ := ⟨_, rfl⟩
              replace H : ((impl_PutBits.f k1 x124000_1 x124001_1 (ji18) (wrap64 (-(wrap64 ((-1) - t134))))).bind fun bt135 => (if bt135.2 = (wrap64 (x124001_1 - (wrap64 ((-1) - t134)))) then (if x4_1.length < 17592186044416 then (if x5_1.length < 17592186044416 then (laws_FnBits.l0 k1 l0 (x4_1 ++ [ji18]) (x5_1 ++ [wrap64 ((-1) - t134)]) (wrap64 (1 + t130)) (wrap64 (x7_1 + 1)) bt135.1 bt135.2) else (none)) else (none)) else (some false))) = some r := by first | (rw [hji18] at H; exact H) | (simp only [hji18] at H ⊢; exact H)
              (try rw [hji18] at A11)
              (try rw [hji18] at A12)
              (try rw [hji18] at A13)
              (try rw [hji18] at A15)
              have hji18_ : (t131 / 2 ^ min (ji16).toNat 64) = ji18 := hji18
              have hji18z : (ji16) ≤ 64 → (t131 / 2 ^ (ji16).toNat) = ji18 := shr_small hji18
              replace H := Option.bind_eq_some_iff.mp H
              obtain ⟨⟨t135, t138⟩, A190, H⟩ := H
              replace H : (if t138 = (wrap64 (x124001_1 - (wrap64 ((-1) - t134)))) then (if x4_1.length < 17592186044416 then (if x5_1.length < 17592186044416 then (laws_FnBits.l0 k1 l0 (x4_1 ++ [ji18]) (x5_1 ++ [wrap64 ((-1) - t134)]) (wrap64 (1 + t130)) (wrap64 (x7_1 + 1)) t135 t138) else (none)) else (none)) else (some false)) = some r := H
              have A19 := Aside0.mk A190
              clear A190
              by_cases c20 : t138 = (wrap64 (x124001_1 - (wrap64 ((-1) - t134))))
              · rw [if_pos c20] at H
                have c20b0 : (t138 == (wrap64 (x124001_1 - (wrap64 ((-1) - t134))))) = true := beq_iff_eq.mpr c20
                have c20b1 : (t138 != (wrap64 (x124001_1 - (wrap64 ((-1) - t134))))) = false := bne_eq_false_iff_eq.mpr c20
                clear c20
                by_cases c21 : x4_1.length < 17592186044416
                · rw [if_pos c21] at H
                  have LMc21 := Aside0.mk c21
                  clear c21
                  obtain ⟨y139, hy139⟩ : ∃ y_ : List Int, y_ = (x4_1 ++ [ji18]) := ⟨_, rfl⟩
                  replace H : (if x5_1.length < 17592186044416 then (laws_FnBits.l0 k1 l0 y139 (x5_1 ++ [wrap64 ((-1) - t134)]) (wrap64 (1 + t130)) (wrap64 (x7_1 + 1)) t135 t138) else (none)) = some r := by first | (rw [hy139]; with_reducible exact H) | (have H2_ := (Option.bind_some _ _).symm.trans H; rw [hy139]; with_reducible exact H2_) | (have H2_ := (Option.bind_some _ _).symm.trans H; with_reducible exact H2_) | with_reducible exact H | (rw [hy139]; exact H) | exact H
                  have Ny139 := Aside0.mk hy139
                  clear hy139
                  by_cases c22 : x5_1.length < 17592186044416
                  · rw [if_pos c22] at H
                    have LMc22 := Aside0.mk c22
                    clear c22
                    obtain ⟨y142, hy142⟩ : ∃ y_ : List Int, y_ = (x5_1 ++ [wrap64 ((-1) - t134)]) := ⟨_, rfl⟩
                    replace H : (laws_FnBits.l0 k1 l0 y139 y142 (wrap64 (1 + t130)) (wrap64 (x7_1 + 1)) t135 t138) = some r := by first | (rw [hy142]; with_reducible exact H) | (have H2_ := (Option.bind_some _ _).symm.trans H; rw [hy142]; with_reducible exact H2_) | (have H2_ := (Option.bind_some _ _).symm.trans H; with_reducible exact H2_) | with_reducible exact H | (rw [hy142]; exact H) | exact H
                    have Ny142 := Aside0.mk hy142
                    clear hy142
                    have H' := Aside0.mk H
                    clear H
                    go_wp2_with (first | ((with_reducible refine gate_callee (f := 57) rfl ?_); refine goesL_ (some 34) rfl rfl Try.func57 (by kernel_rfl) rfl #[.slice A0 l0.length c0, .int .i64 (wrap64 ((wrap64 (11 * x7_1)) + 1)), .int .i64 64] rfl (by (try simp only [List.map_toArray, List.map_cons, List.map_nil]); first | done | rfl | (simp only [List.length_drop, List.length_take]; rfl)) ?_; (with_reducible refine (laws_lwWord.calls k1 _ _ l0 (wrap64 ((wrap64 (11 * x7_1)) + 1)) 64 t131 _ ?side1 ?side2 A11.out).mono ?_); (case side1 => repeat (first | exact (Kd.C_below HR0.out HB.out) | (with_reducible refine Kd.C_alloc ?_ _) | (with_reducible refine Kd.C_drewN ?_ _) | (with_reducible refine Kd.C_drew ?_))); (case side2 => exact HC0.out); rintro e w' ⟨rfl, ⟨nd, rfl⟩⟩; refine ⟨_, rfl, ?_⟩; (try (rw [drewN_self wr]; generalize hq_ : World.drewN wr _ = wr; have n0_ : Aside0 (Kd.R (Kd.int .u8) 5 wr w.heap.size (fun _ => True) u124000 x124000_1) := ⟨by rw [← hq_]; exact (by (with_reducible repeat (first | apply Kd.R_alloc | apply Kd.R_drewN | apply Kd.R_drew)); exact HO_124000.out)⟩; have n1_ : Aside0 (Kd.R (Kd.int .u64) 38 wr w.heap.size (fun _ => True) u4 x4_1) := ⟨by rw [← hq_]; exact (by (with_reducible repeat (first | apply Kd.R_alloc | apply Kd.R_drewN | apply Kd.R_drew)); exact HO_4.out)⟩; have n2_ : Aside0 (Kd.R (Kd.int .i64) 2 wr w.heap.size (fun _ => True) u5 x5_1) := ⟨by rw [← hq_]; exact (by (with_reducible repeat (first | apply Kd.R_alloc | apply Kd.R_drewN | apply Kd.R_drew)); exact HO_5.out)⟩; have n3_ : Aside0 (wr.heap[gb123]? = some (.cells #[u124000, .int .i64 x124001_1] 64 (0, 0))) := ⟨by rw [← hq_]; exact (by (with_reducible repeat (first | refine blk_drewN ?_ _ | refine blk_drew ?_ | refine blk_alloc ?_ _)); exact BK123.out)⟩; have n4_ : Aside0 (Below w.heap.size w wr) := ⟨by rw [← hq_]; exact (by repeat (first | (with_reducible first | exact HB.out | apply below_alloc | apply pw_below_drewN | apply below_drew1 | refine below_set ?_ GE123.out) | exact HB.out))⟩; clear HO_124000 HO_4 HO_5 BK123 HB hq_; have HO_124000 := n0_; have HO_4 := n1_; have HO_5 := n2_; have BK123 := n3_; have HB := n4_; clear n0_ n1_ n2_ n3_ n4_))) | ((with_reducible refine gate_callee (f := 56) rfl ?_); refine goesL_ (some 39) rfl rfl Try.func56 (by kernel_rfl) rfl #[.slice A0 l0.length c0, .int .i64 (wrap64 ((wrap64 (11 * x7_1)) + 2)), .int .i64 12] rfl (by (try simp only [List.map_toArray, List.map_cons, List.map_nil]); first | done | rfl | (simp only [List.length_drop, List.length_take]; rfl)) ?_; (with_reducible refine (laws_lwAt.calls _ _ l0 (wrap64 ((wrap64 (11 * x7_1)) + 2)) 12 t132 _ ?side1 ?side2 A12.out).mono ?_); (case side1 => repeat (first | exact (Kd.C_below HR0.out HB.out) | (with_reducible refine Kd.C_alloc ?_ _) | (with_reducible refine Kd.C_drewN ?_ _) | (with_reducible refine Kd.C_drew ?_))); (case side2 => exact HC0.out); rintro e w' ⟨rfl, ⟨nd, rfl⟩⟩; refine ⟨_, rfl, ?_⟩; (try (rw [drewN_self wr]; generalize hq_ : World.drewN wr _ = wr; have n0_ : Aside0 (Kd.R (Kd.int .u8) 5 wr w.heap.size (fun _ => True) u124000 x124000_1) := ⟨by rw [← hq_]; exact (by (with_reducible repeat (first | apply Kd.R_alloc | apply Kd.R_drewN | apply Kd.R_drew)); exact HO_124000.out)⟩; have n1_ : Aside0 (Kd.R (Kd.int .u64) 38 wr w.heap.size (fun _ => True) u4 x4_1) := ⟨by rw [← hq_]; exact (by (with_reducible repeat (first | apply Kd.R_alloc | apply Kd.R_drewN | apply Kd.R_drew)); exact HO_4.out)⟩; have n2_ : Aside0 (Kd.R (Kd.int .i64) 2 wr w.heap.size (fun _ => True) u5 x5_1) := ⟨by rw [← hq_]; exact (by (with_reducible repeat (first | apply Kd.R_alloc | apply Kd.R_drewN | apply Kd.R_drew)); exact HO_5.out)⟩; have n3_ : Aside0 (wr.heap[gb123]? = some (.cells #[u124000, .int .i64 x124001_1] 64 (0, 0))) := ⟨by rw [← hq_]; exact (by (with_reducible repeat (first | refine blk_drewN ?_ _ | refine blk_drew ?_ | refine blk_alloc ?_ _)); exact BK123.out)⟩; have n4_ : Aside0 (Below w.heap.size w wr) := ⟨by rw [← hq_]; exact (by repeat (first | (with_reducible first | exact HB.out | apply below_alloc | apply pw_below_drewN | apply below_drew1 | refine below_set ?_ GE123.out) | exact HB.out))⟩; clear HO_124000 HO_4 HO_5 BK123 HB hq_; have HO_124000 := n0_; have HO_4 := n1_; have HO_5 := n2_; have BK123 := n3_; have HB := n4_; clear n0_ n1_ n2_ n3_ n4_)); have hcz23_0 : wr.cell? ⟨gb123, 0, none⟩ = some (u124000) := (blk_cell BK123.out 0).trans rfl; have hcz23_1 : wr.cell? ⟨gb123, 1, none⟩ = some (.int .i64 x124001_1) := (blk_cell BK123.out 1).trans rfl; have hfz23_0 := blk_frozen BK123.out 0; have hfz23_1 := blk_frozen BK123.out 1) | ((with_reducible refine gate_callee (f := 56) rfl ?_); refine goesL_ (some 47) rfl rfl Try.func56 (by kernel_rfl) rfl #[.slice A0 l0.length c0, .int .i64 (wrap64 ((wrap64 (11 * x7_1)) + 3)), .int .i64 2] rfl (by (try simp only [List.map_toArray, List.map_cons, List.map_nil]); first | done | rfl | (simp only [List.length_drop, List.length_take]; rfl)) ?_; (with_reducible refine (laws_lwAt.calls _ _ l0 (wrap64 ((wrap64 (11 * x7_1)) + 3)) 2 t133 _ ?side1 ?side2 A13.out).mono ?_); (case side1 => repeat (first | exact (Kd.C_below HR0.out HB.out) | (with_reducible refine Kd.C_alloc ?_ _) | (with_reducible refine Kd.C_drewN ?_ _) | (with_reducible refine Kd.C_drew ?_))); (case side2 => exact HC0.out); rintro e w' ⟨rfl, ⟨nd, rfl⟩⟩; refine ⟨_, rfl, ?_⟩; (try (rw [drewN_self wr]; generalize hq_ : World.drewN wr _ = wr; have n0_ : Aside0 (Kd.R (Kd.int .u8) 5 wr w.heap.size (fun _ => True) u124000 x124000_1) := ⟨by rw [← hq_]; exact (by (with_reducible repeat (first | apply Kd.R_alloc | apply Kd.R_drewN | apply Kd.R_drew)); exact HO_124000.out)⟩; have n1_ : Aside0 (Kd.R (Kd.int .u64) 38 wr w.heap.size (fun _ => True) u4 x4_1) := ⟨by rw [← hq_]; exact (by (with_reducible repeat (first | apply Kd.R_alloc | apply Kd.R_drewN | apply Kd.R_drew)); exact HO_4.out)⟩; have n2_ : Aside0 (Kd.R (Kd.int .i64) 2 wr w.heap.size (fun _ => True) u5 x5_1) := ⟨by rw [← hq_]; exact (by (with_reducible repeat (first | apply Kd.R_alloc | apply Kd.R_drewN | apply Kd.R_drew)); exact HO_5.out)⟩; have n3_ : Aside0 (wr.heap[gb123]? = some (.cells #[u124000, .int .i64 x124001_1] 64 (0, 0))) := ⟨by rw [← hq_]; exact (by (with_reducible repeat (first | refine blk_drewN ?_ _ | refine blk_drew ?_ | refine blk_alloc ?_ _)); exact BK123.out)⟩; have n4_ : Aside0 (Below w.heap.size w wr) := ⟨by rw [← hq_]; exact (by repeat (first | (with_reducible first | exact HB.out | apply below_alloc | apply pw_below_drewN | apply below_drew1 | refine below_set ?_ GE123.out) | exact HB.out))⟩; clear HO_124000 HO_4 HO_5 BK123 HB hq_; have HO_124000 := n0_; have HO_4 := n1_; have HO_5 := n2_; have BK123 := n3_; have HB := n4_; clear n0_ n1_ n2_ n3_ n4_))) | ((with_reducible refine gate_callee (f := 56) rfl ?_); refine goesL_ (some 53) rfl rfl Try.func56 (by kernel_rfl) rfl #[.slice A0 l0.length c0, .int .i64 (wrap64 ((wrap64 (11 * x7_1)) + 4)), .int .i64 64] rfl (by (try simp only [List.map_toArray, List.map_cons, List.map_nil]); first | done | rfl | (simp only [List.length_drop, List.length_take]; rfl)) ?_; (with_reducible refine (laws_lwAt.calls _ _ l0 (wrap64 ((wrap64 (11 * x7_1)) + 4)) 64 t134 _ ?side1 ?side2 A15.out).mono ?_); (case side1 => repeat (first | exact (Kd.C_below HR0.out HB.out) | (with_reducible refine Kd.C_alloc ?_ _) | (with_reducible refine Kd.C_drewN ?_ _) | (with_reducible refine Kd.C_drew ?_))); (case side2 => exact HC0.out); rintro e w' ⟨rfl, ⟨nd, rfl⟩⟩; refine ⟨_, rfl, ?_⟩; (try (rw [drewN_self wr]; generalize hq_ : World.drewN wr _ = wr; have n0_ : Aside0 (Kd.R (Kd.int .u8) 5 wr w.heap.size (fun _ => True) u124000 x124000_1) := ⟨by rw [← hq_]; exact (by (with_reducible repeat (first | apply Kd.R_alloc | apply Kd.R_drewN | apply Kd.R_drew)); exact HO_124000.out)⟩; have n1_ : Aside0 (Kd.R (Kd.int .u64) 38 wr w.heap.size (fun _ => True) u4 x4_1) := ⟨by rw [← hq_]; exact (by (with_reducible repeat (first | apply Kd.R_alloc | apply Kd.R_drewN | apply Kd.R_drew)); exact HO_4.out)⟩; have n2_ : Aside0 (Kd.R (Kd.int .i64) 2 wr w.heap.size (fun _ => True) u5 x5_1) := ⟨by rw [← hq_]; exact (by (with_reducible repeat (first | apply Kd.R_alloc | apply Kd.R_drewN | apply Kd.R_drew)); exact HO_5.out)⟩; have n3_ : Aside0 (wr.heap[gb123]? = some (.cells #[u124000, .int .i64 x124001_1] 64 (0, 0))) := ⟨by rw [← hq_]; exact (by (with_reducible repeat (first | refine blk_drewN ?_ _ | refine blk_drew ?_ | refine blk_alloc ?_ _)); exact BK123.out)⟩; have n4_ : Aside0 (Below w.heap.size w wr) := ⟨by rw [← hq_]; exact (by repeat (first | (with_reducible first | exact HB.out | apply below_alloc | apply pw_below_drewN | apply below_drew1 | refine below_set ?_ GE123.out) | exact HB.out))⟩; clear HO_124000 HO_4 HO_5 BK123 HB hq_; have HO_124000 := n0_; have HO_4 := n1_; have HO_5 := n2_; have BK123 := n3_; have HB := n4_; clear n0_ n1_ n2_ n3_ n4_)); obtain ⟨Ao24, co24, eo24⟩ := Kd.R_slice HO_124000.out; subst eo24; have hcy0 : wr.cell? ⟨gb123, 0, none⟩ = some (.slice Ao24 x124000_1.length co24) := (blk_cell BK123.out 0).trans rfl; have hcy1 : wr.cell? ⟨gb123, 1, none⟩ = some (.int .i64 x124001_1) := (blk_cell BK123.out 1).trans rfl; have hfy0 := blk_frozen BK123.out 0; have hfy1 := blk_frozen BK123.out 1) | ((with_reducible refine gate_callee (f := 58) rfl ?_); refine goesL_ (some 64) rfl rfl Try.func58 (by kernel_rfl) rfl #[.agg #[.slice Ao24 x124000_1.length co24, .int .i64 x124001_1], .int .u64 ji18, .int .i64 (wrap64 (-(wrap64 ((-1) - t134))))] rfl (by (try simp only [List.map_toArray, List.map_cons, List.map_nil]); first | done | (simp only [hji18]; rfl) | rfl | (simp only [List.length_drop, List.length_take]; rfl)) ?_; (with_reducible refine (impl_PutBits.calls k1 _ _ x124000_1 x124001_1 ji18 (wrap64 (-(wrap64 ((-1) - t134)))) t135 t138 _ ?side1 ?side2 A19.out).mono ?_); (case side1 => repeat (first | exact (Kd.R_reads' HO_124000.out).2.2 | (with_reducible refine Kd.C_alloc ?_ _) | (with_reducible refine Kd.C_drewN ?_ _) | (with_reducible refine Kd.C_drew ?_))); (case side2 => exact (Kd.R_reads' HO_124000.out).2.1); rintro e w25 ⟨v136, rfl, ho0, hb⟩; refine ⟨_, rfl, ?_⟩; have n0_ := Aside0.mk (Kd.R_below (by (with_reducible repeat (first | apply Kd.R_alloc | apply Kd.R_drewN | apply Kd.R_drew)); exact HO_4.out) hb); have n1_ := Aside0.mk (Kd.R_below (by (with_reducible repeat (first | apply Kd.R_alloc | apply Kd.R_drewN | apply Kd.R_drew)); exact HO_5.out) hb); have n2_ := Aside0.mk (Kd.R_elder' (by (with_reducible repeat (first | apply Kd.R_alloc | apply Kd.R_drewN | apply Kd.R_drew)); exact HO_124000.out) (Kd.R_base ho0) hb); have n3_ := Aside0.mk (Kd.R_lower (Kd.R_new' ho0 (Kd.R_lt (by (with_reducible repeat (first | apply Kd.R_alloc | apply Kd.R_drewN | apply Kd.R_drew)); exact HO_124000.out))) (below_size (by repeat (first | (with_reducible first | exact HB.out | apply below_alloc | apply pw_below_drewN | apply below_drew1 | refine below_set ?_ GE123.out) | exact HB.out)))); have n4_ := Aside0.mk (blk_below (g := gb123) (o := .cells #[.slice Ao24 x124000_1.length co24, .int .i64 x124001_1] 64 (0, 0)) (by (with_reducible repeat (first | refine blk_drewN ?_ _ | refine blk_drew ?_ | refine blk_alloc ?_ _)); exact BK123.out) hb); have n5_ := Aside0.mk (below_step (by repeat (first | (with_reducible first | exact HB.out | apply below_alloc | apply pw_below_drewN | apply below_drew1 | refine below_set ?_ GE123.out) | exact HB.out)) hb); clear HO_4; clear HO_5; clear HO_124000; clear BK123; clear HB; have HO_4 := n0_; have HO_5 := n1_; have HO_124000 := n2_; have HO137 := n3_; have BK123 := n4_; have HB := n5_; clear n0_ n1_ n2_ n3_ n4_ n5_; (try clear hb); (try clear hb2); (try clear hk); (try clear hi); (try clear ho0); obtain ⟨Ao26, co26, eo26⟩ := Kd.R_slice HO137.out; subst eo26; have hcz27_0 : w25.cell? ⟨gb123, 0, none⟩ = some (.slice Ao24 x124000_1.length co24) := (blk_cell BK123.out 0).trans rfl; have hcz27_1 : w25.cell? ⟨gb123, 1, none⟩ = some (.int .i64 x124001_1) := (blk_cell BK123.out 1).trans rfl; have hfz27_0 := blk_frozen BK123.out 0; have hfz27_1 := blk_frozen BK123.out 1) | ((with_reducible refine gate_builtin (b := .append) (xs := #[.tmp 97, .tmp 99]) rfl ?_); at_builtin; refine Kd.R_append (Kd.int .u64) (w0 := w) w.heap.size rfl (.tmp 97) (.tmp 99) 51 38 (.int .u64 0) 8 rfl Try.underlying51 info38 rfl (by decide) (by omega) u4 x4_1 ji18 [.int .u64 ji18] (fun _ => True) (fun _ => False) rfl (by first | (go_simp; done) | (go_simp; rfl)) ?aP (fun _ hk => hk.elim) ?aF ?aO ?aB ?aS ?aL ?_; (case aP => exact rfl); (case aB => exact (by repeat (first | (with_reducible first | exact HB.out | apply below_alloc | apply pw_below_drewN | apply below_drew1 | refine below_set ?_ GE123.out) | exact HB.out))); (case aF => exact (fun _ _ => trivial)); (case aO => exact (by (with_reducible repeat (first | apply Kd.R_alloc | apply Kd.R_drewN | apply Kd.R_drew)); exact Kd.R_mono (Kd.R_far (p := ⟨gb123, 1, none⟩) (Kd.R_far (p := ⟨gb123, 0, none⟩) (Kd.R_types HO_4.out BK123.out (by decide)) (fun _ hk => hk.2) (.slice Ao26 t135.length co26)) (fun _ hk => hk.2) (.int .i64 t138)) (fun _ hk => trivial))); (case aS => exact (below_size (by repeat (first | (with_reducible first | exact HB.out | apply below_alloc | apply pw_below_drewN | apply below_drew1 | refine below_set ?_ GE123.out) | exact HB.out)))); (case aL => have := LMc21.out; omega); intro v140 w28 ho hb hg hat; rw [← Ny139.out] at ho; have n0_ := Aside0.mk (Kd.R_over' (by (with_reducible repeat (first | apply Kd.R_alloc | apply Kd.R_drewN | apply Kd.R_drew)); exact (Kd.R_mono (Kd.R_far (p := ⟨gb123, 1, none⟩) (Kd.R_far (p := ⟨gb123, 0, none⟩) (Kd.R_types HO_5.out BK123.out (by decide)) (fun _ hk => hk.2) (.slice Ao26 t135.length co26)) (fun _ hk => hk.2) (.int .i64 t138)) (fun _ h_ => h_.1))) (Kd.R_typed (by (with_reducible repeat (first | apply Kd.R_alloc | apply Kd.R_drewN | apply Kd.R_drew)); exact (Kd.R_mono (Kd.R_far (p := ⟨gb123, 1, none⟩) (Kd.R_far (p := ⟨gb123, 0, none⟩) (Kd.R_types HO_4.out BK123.out (by decide)) (fun _ hk => hk.2) (.slice Ao26 t135.length co26)) (fun _ hk => hk.2) (.int .i64 t138)) (fun _ h_ => h_.1)))) (by decide) hg); have n1_ := Aside0.mk (Kd.R_over' (by (with_reducible repeat (first | apply Kd.R_alloc | apply Kd.R_drewN | apply Kd.R_drew)); exact (Kd.R_mono (Kd.R_far (p := ⟨gb123, 1, none⟩) (Kd.R_far (p := ⟨gb123, 0, none⟩) (Kd.R_types HO_124000.out BK123.out (by decide)) (fun _ hk => hk.2) (.slice Ao26 t135.length co26)) (fun _ hk => hk.2) (.int .i64 t138)) (fun _ h_ => h_.1))) (Kd.R_typed (by (with_reducible repeat (first | apply Kd.R_alloc | apply Kd.R_drewN | apply Kd.R_drew)); exact (Kd.R_mono (Kd.R_far (p := ⟨gb123, 1, none⟩) (Kd.R_far (p := ⟨gb123, 0, none⟩) (Kd.R_types HO_4.out BK123.out (by decide)) (fun _ hk => hk.2) (.slice Ao26 t135.length co26)) (fun _ hk => hk.2) (.int .i64 t138)) (fun _ h_ => h_.1)))) (by decide) hg); have n2_ := Aside0.mk (blk_grown (g := gb123) (o := .cells #[.slice Ao26 t135.length co26, .int .i64 t138] 64 (0, 0)) (by (with_reducible repeat (first | refine blk_drewN ?_ _ | refine blk_drew ?_ | refine blk_alloc ?_ _)); refine blk_put (cs := #[.slice Ao26 t135.length co26, .int .i64 x124001_1]) ?_ 1 _ rfl; (with_reducible repeat (first | refine blk_drewN ?_ _ | refine blk_drew ?_ | refine blk_alloc ?_ _)); refine blk_put (cs := #[.slice Ao24 x124000_1.length co24, .int .i64 x124001_1]) ?_ 0 _ rfl; (with_reducible repeat (first | refine blk_drewN ?_ _ | refine blk_drew ?_ | refine blk_alloc ?_ _)); exact BK123.out) hg (Kd.R_ne HO_4.out BK123.out (by decide))); have n3_ := Aside0.mk (Kd.R_over' (by (with_reducible repeat (first | apply Kd.R_alloc | apply Kd.R_drewN | apply Kd.R_drew)); exact (Kd.R_mono (Kd.R_far (p := ⟨gb123, 1, none⟩) (Kd.R_far (p := ⟨gb123, 0, none⟩) (Kd.R_types HO137.out BK123.out (by decide)) (fun _ hk => hk.2) (.slice Ao26 t135.length co26)) (fun _ hk => hk.2) (.int .i64 t138)) (fun _ h_ => h_.1))) (Kd.R_typed (by (with_reducible repeat (first | apply Kd.R_alloc | apply Kd.R_drewN | apply Kd.R_drew)); exact (Kd.R_mono (Kd.R_far (p := ⟨gb123, 1, none⟩) (Kd.R_far (p := ⟨gb123, 0, none⟩) (Kd.R_types HO_4.out BK123.out (by decide)) (fun _ hk => hk.2) (.slice Ao26 t135.length co26)) (fun _ hk => hk.2) (.int .i64 t138)) (fun _ h_ => h_.1)))) (by decide) hg); have n4_ := Aside0.mk (hb); have n5_ := Aside0.mk (ho); clear HO_5; clear HO_124000; clear BK123; clear HO137; clear HB; clear HO_4; have HO_5 := n0_; have HO_124000 := n1_; have BK123 := n2_; have HO137 := n3_; have HB := n4_; have HO141 := n5_; clear n0_ n1_ n2_ n3_ n4_ n5_; clear ho hb hg hat) | ((with_reducible refine gate_builtin (b := .append) (xs := #[.tmp 101, .tmp 103]) rfl ?_); at_builtin; refine Kd.R_append (Kd.int .i64) (w0 := w) w.heap.size rfl (.tmp 101) (.tmp 103) 22 2 (.int .i64 0) 8 rfl Try.underlying22 info2 rfl (by decide) (by omega) u5 x5_1 (wrap64 ((-1) - t134)) [.int .i64 (wrap64 ((-1) - t134))] (fun _ => True) (fun _ => False) rfl rfl ?aP (fun _ hk => hk.elim) ?aF ?aO ?aB ?aS ?aL ?_; (case aP => exact rfl); (case aB => exact (by repeat (first | (with_reducible first | exact HB.out | apply below_alloc | apply pw_below_drewN | apply below_drew1 | refine below_set ?_ GE123.out) | exact HB.out))); (case aF => exact (fun _ _ => trivial)); (case aO => exact (by (with_reducible repeat (first | apply Kd.R_alloc | apply Kd.R_drewN | apply Kd.R_drew)); exact HO_5.out)); (case aS => exact (below_size (by repeat (first | (with_reducible first | exact HB.out | apply below_alloc | apply pw_below_drewN | apply below_drew1 | refine below_set ?_ GE123.out) | exact HB.out)))); (case aL => have := LMc22.out; omega); intro v143 w29 ho hb hg hat; rw [← Ny142.out] at ho; have n0_ := Aside0.mk (Kd.R_over' (by (with_reducible repeat (first | apply Kd.R_alloc | apply Kd.R_drewN | apply Kd.R_drew)); exact HO_124000.out) (Kd.R_typed (by (with_reducible repeat (first | apply Kd.R_alloc | apply Kd.R_drewN | apply Kd.R_drew)); exact HO_5.out)) (by decide) hg); have n1_ := Aside0.mk (blk_grown (g := gb123) (o := .cells #[.slice Ao26 t135.length co26, .int .i64 t138] 64 (0, 0)) (by (with_reducible repeat (first | refine blk_drewN ?_ _ | refine blk_drew ?_ | refine blk_alloc ?_ _)); exact BK123.out) hg (Kd.R_ne HO_5.out BK123.out (by decide))); have n2_ := Aside0.mk (Kd.R_over' (by (with_reducible repeat (first | apply Kd.R_alloc | apply Kd.R_drewN | apply Kd.R_drew)); exact HO137.out) (Kd.R_typed (by (with_reducible repeat (first | apply Kd.R_alloc | apply Kd.R_drewN | apply Kd.R_drew)); exact HO_5.out)) (by decide) hg); have n3_ := Aside0.mk (Kd.R_over' (by (with_reducible repeat (first | apply Kd.R_alloc | apply Kd.R_drewN | apply Kd.R_drew)); exact HO141.out) (Kd.R_typed (by (with_reducible repeat (first | apply Kd.R_alloc | apply Kd.R_drewN | apply Kd.R_drew)); exact HO_5.out)) (by decide) hg); have n4_ := Aside0.mk (hb); have n5_ := Aside0.mk (ho); clear HO_124000; clear BK123; clear HO137; clear HO141; clear HB; clear HO_5; have HO_124000 := n0_; have BK123 := n1_; have HO137 := n2_; have HO141 := n3_; have HB := n4_; have HO144 := n5_; clear n0_ n1_ n2_ n3_ n4_ n5_; clear ho hb hg hat))
                    go_roundg k1
                    case measure => have := HK1.out; omega
                    case rel => exact ⟨(y139), (y142), (wrap64 (x7_1 + 1)), (t135), (t138), (.slice Ao26 t135.length co26), (by first | rfl | (simp; done) | (simp [*]; done)), H', ⟨by have := HK1.out; omega⟩, ⟨by (with_reducible repeat (first | apply Kd.R_alloc | apply Kd.R_drewN | apply Kd.R_drew)); exact HO141.out⟩, ⟨by (with_reducible repeat (first | apply Kd.R_alloc | apply Kd.R_drewN | apply Kd.R_drew)); exact HO144.out⟩, ⟨by (with_reducible repeat (first | apply Kd.R_alloc | apply Kd.R_drewN | apply Kd.R_drew)); exact Kd.R_mono HO137.out (fun _ hk => trivial)⟩, ⟨by (with_reducible repeat (first | refine blk_drewN ?_ _ | refine blk_drew ?_ | refine blk_alloc ?_ _)); exact BK123.out⟩, ⟨by repeat (first | (with_reducible first | exact HB.out | apply below_alloc | apply pw_below_drewN | apply below_drew1 | refine below_set ?_ GE123.out) | exact HB.out)⟩⟩
                  · rw [if_neg c22] at H
                    exact absurd H (by simp)
                · rw [if_neg c21] at H
                  exact absurd H (by simp)
              · rw [if_neg c20] at H
                have c20b0 : (t138 == (wrap64 (x124001_1 - (wrap64 ((-1) - t134))))) = false := beq_eq_false_iff_ne.mpr c20
                have c20b1 : (t138 != (wrap64 (x124001_1 - (wrap64 ((-1) - t134))))) = true := bne_iff_ne.mpr c20
                obtain rfl := Option.some.inj H
                exact absurd hlaw.out (by simp)
            · rw [if_neg c17] at H
              exact absurd H (by simp)
          · rw [if_neg c14] at H
            have c14b0 : (t133 == 0) = false := beq_eq_false_iff_ne.mpr c14
            have c14b1 : (t133 != 0) = true := bne_iff_ne.mpr c14
            replace H := Option.bind_eq_some_iff.mp H
            obtain ⟨⟨t145, t148⟩, A300, H⟩ := H
            replace H : (if 0 ≤ (IntKind.u64.wrap (wrap64 ((wrap64 (2 + t132)) - 1))) then (laws_FnBits.l1 k1 l0 x4_1 x5_1 (wrap64 (1 + t130)) x7_1 t131 (wrap64 (2 + t132)) x124001_1 1 (shr .u64 t131 (IntKind.u64.wrap (wrap64 ((wrap64 (2 + t132)) - 1)))) t145 t148) else (none)) = some r := H
            have A30 := Aside0.mk A300
            clear A300
            obtain ⟨ji31, hji31⟩ : ∃ j_ : Int, (IntKind.u64.wrap (wrap64 ((wrap64 (2 + t132)) - 1))) = j_ := ⟨_, rfl⟩
            replace H : (if 0 ≤ (ji31) then (laws_FnBits.l1 k1 l0 x4_1 x5_1 (wrap64 (1 + t130)) x7_1 t131 (wrap64 (2 + t132)) x124001_1 1 (shr .u64 t131 (ji31)) t145 t148) else (none)) = some r := by first | (rw [hji31] at H; exact H) | (simp only [hji31] at H ⊢; exact H)
            (try rw [hji31] at A11)
            (try rw [hji31] at A12)
            (try rw [hji31] at A13)
            (try rw [hji31] at A30)
            by_cases c32 : 0 ≤ (ji31)
            · rw [if_pos c32] at H
              have c32b0 := eq_true c32
              have c32b1 : decide (0 ≤ (ji31)) = true := decide_eq_true c32
              clear c32
              obtain ⟨ji33, hji33⟩ : ∃ j_ : Int, (shr .u64 t131 (ji31)) = j_ := ⟨_, rfl⟩
              replace H : (laws_FnBits.l1 k1 l0 x4_1 x5_1 (wrap64 (1 + t130)) x7_1 t131 (wrap64 (2 + t132)) x124001_1 1 ji33 t145 t148) = some r := by first | (rw [hji33] at H; exact H) | (simp only [hji33] at H ⊢; exact H)
              (try rw [hji33] at A11)
              (try rw [hji33] at A12)
              (try rw [hji33] at A13)
              (try rw [hji33] at A30)
              have hji33_ : (t131 / 2 ^ min (ji31).toNat 64) = ji33 := hji33
              have hji33z : (ji31) ≤ 64 → (t131 / 2 ^ (ji31).toNat) = ji33 := shr_small hji33
              have H' := Aside0.mk H
              clear H
              go_wp2_with (first | ((with_reducible refine gate_callee (f := 57) rfl ?_); refine goesL_ (some 34) rfl rfl Try.func57 (by kernel_rfl) rfl #[.slice A0 l0.length c0, .int .i64 (wrap64 ((wrap64 (11 * x7_1)) + 1)), .int .i64 64] rfl (by (try simp only [List.map_toArray, List.map_cons, List.map_nil]); first | done | rfl | (simp only [List.length_drop, List.length_take]; rfl)) ?_; (with_reducible refine (laws_lwWord.calls k1 _ _ l0 (wrap64 ((wrap64 (11 * x7_1)) + 1)) 64 t131 _ ?side1 ?side2 A11.out).mono ?_); (case side1 => repeat (first | exact (Kd.C_below HR0.out HB.out) | (with_reducible refine Kd.C_alloc ?_ _) | (with_reducible refine Kd.C_drewN ?_ _) | (with_reducible refine Kd.C_drew ?_))); (case side2 => exact HC0.out); rintro e w' ⟨rfl, ⟨nd, rfl⟩⟩; refine ⟨_, rfl, ?_⟩; (try (rw [drewN_self wr]; generalize hq_ : World.drewN wr _ = wr; have n0_ : Aside0 (Kd.R (Kd.int .u8) 5 wr w.heap.size (fun _ => True) u124000 x124000_1) := ⟨by rw [← hq_]; exact (by (with_reducible repeat (first | apply Kd.R_alloc | apply Kd.R_drewN | apply Kd.R_drew)); exact HO_124000.out)⟩; have n1_ : Aside0 (Kd.R (Kd.int .u64) 38 wr w.heap.size (fun _ => True) u4 x4_1) := ⟨by rw [← hq_]; exact (by (with_reducible repeat (first | apply Kd.R_alloc | apply Kd.R_drewN | apply Kd.R_drew)); exact HO_4.out)⟩; have n2_ : Aside0 (Kd.R (Kd.int .i64) 2 wr w.heap.size (fun _ => True) u5 x5_1) := ⟨by rw [← hq_]; exact (by (with_reducible repeat (first | apply Kd.R_alloc | apply Kd.R_drewN | apply Kd.R_drew)); exact HO_5.out)⟩; have n3_ : Aside0 (wr.heap[gb123]? = some (.cells #[u124000, .int .i64 x124001_1] 64 (0, 0))) := ⟨by rw [← hq_]; exact (by (with_reducible repeat (first | refine blk_drewN ?_ _ | refine blk_drew ?_ | refine blk_alloc ?_ _)); exact BK123.out)⟩; have n4_ : Aside0 (Below w.heap.size w wr) := ⟨by rw [← hq_]; exact (by repeat (first | (with_reducible first | exact HB.out | apply below_alloc | apply pw_below_drewN | apply below_drew1 | refine below_set ?_ GE123.out) | exact HB.out))⟩; clear HO_124000 HO_4 HO_5 BK123 HB hq_; have HO_124000 := n0_; have HO_4 := n1_; have HO_5 := n2_; have BK123 := n3_; have HB := n4_; clear n0_ n1_ n2_ n3_ n4_))) | ((with_reducible refine gate_callee (f := 56) rfl ?_); refine goesL_ (some 39) rfl rfl Try.func56 (by kernel_rfl) rfl #[.slice A0 l0.length c0, .int .i64 (wrap64 ((wrap64 (11 * x7_1)) + 2)), .int .i64 12] rfl (by (try simp only [List.map_toArray, List.map_cons, List.map_nil]); first | done | rfl | (simp only [List.length_drop, List.length_take]; rfl)) ?_; (with_reducible refine (laws_lwAt.calls _ _ l0 (wrap64 ((wrap64 (11 * x7_1)) + 2)) 12 t132 _ ?side1 ?side2 A12.out).mono ?_); (case side1 => repeat (first | exact (Kd.C_below HR0.out HB.out) | (with_reducible refine Kd.C_alloc ?_ _) | (with_reducible refine Kd.C_drewN ?_ _) | (with_reducible refine Kd.C_drew ?_))); (case side2 => exact HC0.out); rintro e w' ⟨rfl, ⟨nd, rfl⟩⟩; refine ⟨_, rfl, ?_⟩; (try (rw [drewN_self wr]; generalize hq_ : World.drewN wr _ = wr; have n0_ : Aside0 (Kd.R (Kd.int .u8) 5 wr w.heap.size (fun _ => True) u124000 x124000_1) := ⟨by rw [← hq_]; exact (by (with_reducible repeat (first | apply Kd.R_alloc | apply Kd.R_drewN | apply Kd.R_drew)); exact HO_124000.out)⟩; have n1_ : Aside0 (Kd.R (Kd.int .u64) 38 wr w.heap.size (fun _ => True) u4 x4_1) := ⟨by rw [← hq_]; exact (by (with_reducible repeat (first | apply Kd.R_alloc | apply Kd.R_drewN | apply Kd.R_drew)); exact HO_4.out)⟩; have n2_ : Aside0 (Kd.R (Kd.int .i64) 2 wr w.heap.size (fun _ => True) u5 x5_1) := ⟨by rw [← hq_]; exact (by (with_reducible repeat (first | apply Kd.R_alloc | apply Kd.R_drewN | apply Kd.R_drew)); exact HO_5.out)⟩; have n3_ : Aside0 (wr.heap[gb123]? = some (.cells #[u124000, .int .i64 x124001_1] 64 (0, 0))) := ⟨by rw [← hq_]; exact (by (with_reducible repeat (first | refine blk_drewN ?_ _ | refine blk_drew ?_ | refine blk_alloc ?_ _)); exact BK123.out)⟩; have n4_ : Aside0 (Below w.heap.size w wr) := ⟨by rw [← hq_]; exact (by repeat (first | (with_reducible first | exact HB.out | apply below_alloc | apply pw_below_drewN | apply below_drew1 | refine below_set ?_ GE123.out) | exact HB.out))⟩; clear HO_124000 HO_4 HO_5 BK123 HB hq_; have HO_124000 := n0_; have HO_4 := n1_; have HO_5 := n2_; have BK123 := n3_; have HB := n4_; clear n0_ n1_ n2_ n3_ n4_)); have hcz34_0 : wr.cell? ⟨gb123, 0, none⟩ = some (u124000) := (blk_cell BK123.out 0).trans rfl; have hcz34_1 : wr.cell? ⟨gb123, 1, none⟩ = some (.int .i64 x124001_1) := (blk_cell BK123.out 1).trans rfl; have hfz34_0 := blk_frozen BK123.out 0; have hfz34_1 := blk_frozen BK123.out 1) | ((with_reducible refine gate_callee (f := 56) rfl ?_); refine goesL_ (some 47) rfl rfl Try.func56 (by kernel_rfl) rfl #[.slice A0 l0.length c0, .int .i64 (wrap64 ((wrap64 (11 * x7_1)) + 3)), .int .i64 2] rfl (by (try simp only [List.map_toArray, List.map_cons, List.map_nil]); first | done | rfl | (simp only [List.length_drop, List.length_take]; rfl)) ?_; (with_reducible refine (laws_lwAt.calls _ _ l0 (wrap64 ((wrap64 (11 * x7_1)) + 3)) 2 t133 _ ?side1 ?side2 A13.out).mono ?_); (case side1 => repeat (first | exact (Kd.C_below HR0.out HB.out) | (with_reducible refine Kd.C_alloc ?_ _) | (with_reducible refine Kd.C_drewN ?_ _) | (with_reducible refine Kd.C_drew ?_))); (case side2 => exact HC0.out); rintro e w' ⟨rfl, ⟨nd, rfl⟩⟩; refine ⟨_, rfl, ?_⟩; (try (rw [drewN_self wr]; generalize hq_ : World.drewN wr _ = wr; have n0_ : Aside0 (Kd.R (Kd.int .u8) 5 wr w.heap.size (fun _ => True) u124000 x124000_1) := ⟨by rw [← hq_]; exact (by (with_reducible repeat (first | apply Kd.R_alloc | apply Kd.R_drewN | apply Kd.R_drew)); exact HO_124000.out)⟩; have n1_ : Aside0 (Kd.R (Kd.int .u64) 38 wr w.heap.size (fun _ => True) u4 x4_1) := ⟨by rw [← hq_]; exact (by (with_reducible repeat (first | apply Kd.R_alloc | apply Kd.R_drewN | apply Kd.R_drew)); exact HO_4.out)⟩; have n2_ : Aside0 (Kd.R (Kd.int .i64) 2 wr w.heap.size (fun _ => True) u5 x5_1) := ⟨by rw [← hq_]; exact (by (with_reducible repeat (first | apply Kd.R_alloc | apply Kd.R_drewN | apply Kd.R_drew)); exact HO_5.out)⟩; have n3_ : Aside0 (wr.heap[gb123]? = some (.cells #[u124000, .int .i64 x124001_1] 64 (0, 0))) := ⟨by rw [← hq_]; exact (by (with_reducible repeat (first | refine blk_drewN ?_ _ | refine blk_drew ?_ | refine blk_alloc ?_ _)); exact BK123.out)⟩; have n4_ : Aside0 (Below w.heap.size w wr) := ⟨by rw [← hq_]; exact (by repeat (first | (with_reducible first | exact HB.out | apply below_alloc | apply pw_below_drewN | apply below_drew1 | refine below_set ?_ GE123.out) | exact HB.out))⟩; clear HO_124000 HO_4 HO_5 BK123 HB hq_; have HO_124000 := n0_; have HO_4 := n1_; have HO_5 := n2_; have BK123 := n3_; have HB := n4_; clear n0_ n1_ n2_ n3_ n4_)); obtain ⟨Ao35, co35, eo35⟩ := Kd.R_slice HO_124000.out; subst eo35; have hcy0 : wr.cell? ⟨gb123, 0, none⟩ = some (.slice Ao35 x124000_1.length co35) := (blk_cell BK123.out 0).trans rfl; have hcy1 : wr.cell? ⟨gb123, 1, none⟩ = some (.int .i64 x124001_1) := (blk_cell BK123.out 1).trans rfl; have hfy0 := blk_frozen BK123.out 0; have hfy1 := blk_frozen BK123.out 1) | ((with_reducible refine gate_callee (f := 59) rfl ?_); refine goesL_ (some 74) rfl rfl Try.func59 (by kernel_rfl) rfl #[.agg #[.slice Ao35 x124000_1.length co35, .int .i64 x124001_1], .int .u64 t131, .int .i64 (wrap64 (2 + t132))] rfl (by (try simp only [List.map_toArray, List.map_cons, List.map_nil]); first | done | rfl | (simp only [List.length_drop, List.length_take]; rfl)) ?_; (with_reducible refine (impl_PutVar.calls k1 _ _ x124000_1 x124001_1 t131 (wrap64 (2 + t132)) t145 t148 _ ?side1 ?side2 A30.out).mono ?_); (case side1 => repeat (first | exact (Kd.R_reads' HO_124000.out).2.2 | (with_reducible refine Kd.C_alloc ?_ _) | (with_reducible refine Kd.C_drewN ?_ _) | (with_reducible refine Kd.C_drew ?_))); (case side2 => exact (Kd.R_reads' HO_124000.out).2.1); rintro e w36 ⟨v146, rfl, ho0, hb⟩; refine ⟨_, rfl, ?_⟩; have n0_ := Aside0.mk (Kd.R_below (by (with_reducible repeat (first | apply Kd.R_alloc | apply Kd.R_drewN | apply Kd.R_drew)); exact HO_4.out) hb); have n1_ := Aside0.mk (Kd.R_below (by (with_reducible repeat (first | apply Kd.R_alloc | apply Kd.R_drewN | apply Kd.R_drew)); exact HO_5.out) hb); have n2_ := Aside0.mk (Kd.R_elder' (by (with_reducible repeat (first | apply Kd.R_alloc | apply Kd.R_drewN | apply Kd.R_drew)); exact HO_124000.out) (Kd.R_base ho0) hb); have n3_ := Aside0.mk (Kd.R_lower (Kd.R_new' ho0 (Kd.R_lt (by (with_reducible repeat (first | apply Kd.R_alloc | apply Kd.R_drewN | apply Kd.R_drew)); exact HO_124000.out))) (below_size (by repeat (first | (with_reducible first | exact HB.out | apply below_alloc | apply pw_below_drewN | apply below_drew1 | refine below_set ?_ GE123.out) | exact HB.out)))); have n4_ := Aside0.mk (blk_below (g := gb123) (o := .cells #[.slice Ao35 x124000_1.length co35, .int .i64 x124001_1] 64 (0, 0)) (by (with_reducible repeat (first | refine blk_drewN ?_ _ | refine blk_drew ?_ | refine blk_alloc ?_ _)); exact BK123.out) hb); have n5_ := Aside0.mk (below_step (by repeat (first | (with_reducible first | exact HB.out | apply below_alloc | apply pw_below_drewN | apply below_drew1 | refine below_set ?_ GE123.out) | exact HB.out)) hb); clear HO_4; clear HO_5; clear HO_124000; clear BK123; clear HB; have HO_4 := n0_; have HO_5 := n1_; have HO_124000 := n2_; have HO147 := n3_; have BK123 := n4_; have HB := n5_; clear n0_ n1_ n2_ n3_ n4_ n5_; (try clear hb); (try clear hb2); (try clear hk); (try clear hi); (try clear ho0); obtain ⟨Ao37, co37, eo37⟩ := Kd.R_slice HO147.out; subst eo37; have hcz38_0 : w36.cell? ⟨gb123, 0, none⟩ = some (.slice Ao35 x124000_1.length co35) := (blk_cell BK123.out 0).trans rfl; have hcz38_1 : w36.cell? ⟨gb123, 1, none⟩ = some (.int .i64 x124001_1) := (blk_cell BK123.out 1).trans rfl; have hfz38_0 := blk_frozen BK123.out 0; have hfz38_1 := blk_frozen BK123.out 1))
              go_loopg [11, 12] k1 (fun kq v11 v12 w' => ∃ (x11_2 : Int) (x12_2 : Int), v11 = .int .i64 x11_2 ∧ v12 = .int .u64 x12_2 ∧ Aside0 (laws_FnBits.l1 kq l0 x4_1 x5_1 (wrap64 (1 + t130)) x7_1 t131 (wrap64 (2 + t132)) x124001_1 x11_2 x12_2 t145 t148 = some r) ∧ Aside0 (kq ≤ k1) ∧ Aside0 (Kd.R (Kd.int .u64) 38 w' w.heap.size (fun _ => True) u4 x4_1) ∧ Aside0 (Kd.R (Kd.int .i64) 2 w' w.heap.size (fun _ => True) u5 x5_1) ∧ Aside0 (Kd.R (Kd.int .u8) 5 w' w.heap.size (fun _ => True) (.slice Ao37 t145.length co37) t145) ∧ Aside0 (w'.heap[gb123]? = some (.cells #[(.slice Ao37 t145.length co37), .int .i64 t148] 64 (0, 0))) ∧ Aside0 (Below w.heap.size w w'))
              case atStart => exact ⟨(1), (ji33), (by first | rfl | (simp; done) | (simp [*]; done)), (by first | rfl | (simp; done) | (simp only [← hji33] <;> (first | rfl | simp)) | (simp [*]; done)), H', ⟨Nat.le_refl _⟩, ⟨by (with_reducible repeat (first | apply Kd.R_alloc | apply Kd.R_drewN | apply Kd.R_drew)); exact Kd.R_mono (Kd.R_far (p := ⟨gb123, 1, none⟩) (Kd.R_far (p := ⟨gb123, 0, none⟩) (Kd.R_types HO_4.out BK123.out (by decide)) (fun _ hk => hk.2) (.slice Ao37 t145.length co37)) (fun _ hk => hk.2) (.int .i64 t148)) (fun _ hk => trivial)⟩, ⟨by (with_reducible repeat (first | apply Kd.R_alloc | apply Kd.R_drewN | apply Kd.R_drew)); exact Kd.R_mono (Kd.R_far (p := ⟨gb123, 1, none⟩) (Kd.R_far (p := ⟨gb123, 0, none⟩) (Kd.R_types HO_5.out BK123.out (by decide)) (fun _ hk => hk.2) (.slice Ao37 t145.length co37)) (fun _ hk => hk.2) (.int .i64 t148)) (fun _ hk => trivial)⟩, ⟨by (with_reducible repeat (first | apply Kd.R_alloc | apply Kd.R_drewN | apply Kd.R_drew)); exact Kd.R_mono (Kd.R_far (p := ⟨gb123, 1, none⟩) (Kd.R_far (p := ⟨gb123, 0, none⟩) (Kd.R_types HO147.out BK123.out (by decide)) (fun _ hk => hk.2) (.slice Ao37 t145.length co37)) (fun _ hk => hk.2) (.int .i64 t148)) (fun _ hk => trivial)⟩, ⟨by (with_reducible repeat (first | refine blk_drewN ?_ _ | refine blk_drew ?_ | refine blk_alloc ?_ _)); refine blk_put (cs := #[.slice Ao37 t145.length co37, .int .i64 x124001_1]) ?_ 1 _ rfl; (with_reducible repeat (first | refine blk_drewN ?_ _ | refine blk_drew ?_ | refine blk_alloc ?_ _)); refine blk_put (cs := #[.slice Ao35 x124000_1.length co35, .int .i64 x124001_1]) ?_ 0 _ rfl; (with_reducible repeat (first | refine blk_drewN ?_ _ | refine blk_drew ?_ | refine blk_alloc ?_ _)); exact BK123.out⟩, ⟨by repeat (first | (with_reducible first | exact HB.out | apply below_alloc | apply pw_below_drewN | apply below_drew1 | refine below_set ?_ GE123.out) | exact HB.out)⟩⟩
              case round =>
                clear H'
                try clear c1
                try clear c2
                try clear c2b0
                try clear c2b1
                try clear p2
                try clear c3
                try clear c5
                try clear p6
                try clear c10
                try clear c10b0
                try clear c14
                try clear c14b0
                try clear c14b1
                try clear c17
                try clear c17b0
                try clear c17b1
                try clear c20
                try clear c20b0
                try clear c20b1
                try clear c21
                try clear c22
                try clear c32
                try clear c32b0
                try clear c32b1
                try clear hcz23_0
                try clear hcz23_1
                try clear hcz27_0
                try clear hcz27_1
                try clear hcz34_0
                try clear hcz34_1
                try clear hcz38_0
                try clear hcz38_1
                try clear hcz5_0
                try clear hcz5_1
                try clear hfz23_0
                try clear hfz23_1
                try clear hfz27_0
                try clear hfz27_1
                try clear hfz34_0
                try clear hfz34_1
                try clear hfz38_0
                try clear hfz38_1
                try clear hfz5_0
                try clear hfz5_1
                try clear p2
                try clear p6
                obtain ⟨x11_2, x12_2, rfl, rfl, HA, HK2, HO_4, HO_5, HO_124000, BK123, HB⟩ := hrel
                cases gk with
                | zero => exact absurd HA.out (by simp [laws_FnBits.l1])
                | succ k2 =>
                  have H := HA.out
                  clear HA
                  simp only [laws_FnBits.l1] at H
                  by_cases c39 : x12_2 = 0
                  · rw [if_pos c39] at H
                    have c39b0 : (x12_2 == 0) = true := beq_iff_eq.mpr c39
                    have c39b1 : (x12_2 != 0) = false := bne_eq_false_iff_eq.mpr c39
                    clear c39
                    by_cases c40 : t148 = (wrap64 (x124001_1 + (wrap64 (x11_2 * (wrap64 (2 + t132))))))
                    · rw [if_pos c40] at H
                      have c40b0 : (t148 == (wrap64 (x124001_1 + (wrap64 (x11_2 * (wrap64 (2 + t132))))))) = true := beq_iff_eq.mpr c40
                      have c40b1 : (t148 != (wrap64 (x124001_1 + (wrap64 (x11_2 * (wrap64 (2 + t132))))))) = false := bne_eq_false_iff_eq.mpr c40
                      clear c40
                      by_cases c41 : x4_1.length < 17592186044416
                      · rw [if_pos c41] at H
                        have LMc41 := Aside0.mk c41
                        clear c41
                        obtain ⟨y149, hy149⟩ : ∃ y_ : List Int, y_ = (x4_1 ++ [t131]) := ⟨_, rfl⟩
                        replace H : (if x5_1.length < 17592186044416 then (laws_FnBits.l0 k2 l0 y149 (x5_1 ++ [(wrap64 (2 + t132))]) (wrap64 (1 + t130)) (wrap64 (x7_1 + 1)) t145 t148) else (none)) = some r := by first | (rw [hy149]; with_reducible exact H) | (have H2_ := (Option.bind_some _ _).symm.trans H; rw [hy149]; with_reducible exact H2_) | (have H2_ := (Option.bind_some _ _).symm.trans H; with_reducible exact H2_) | with_reducible exact H | (rw [hy149]; exact H) | exact H
                        have Ny149 := Aside0.mk hy149
                        clear hy149
                        by_cases c42 : x5_1.length < 17592186044416
                        · rw [if_pos c42] at H
                          have LMc42 := Aside0.mk c42
                          clear c42
                          obtain ⟨y152, hy152⟩ : ∃ y_ : List Int, y_ = (x5_1 ++ [(wrap64 (2 + t132))]) := ⟨_, rfl⟩
                          replace H : (laws_FnBits.l0 k2 l0 y149 y152 (wrap64 (1 + t130)) (wrap64 (x7_1 + 1)) t145 t148) = some r := by first | (rw [hy152]; with_reducible exact H) | (have H2_ := (Option.bind_some _ _).symm.trans H; rw [hy152]; with_reducible exact H2_) | (have H2_ := (Option.bind_some _ _).symm.trans H; with_reducible exact H2_) | with_reducible exact H | (rw [hy152]; exact H) | exact H
                          have Ny152 := Aside0.mk hy152
                          clear hy152
                          have H' := Aside0.mk H
                          clear H
                          have hcz43_0 : wr.cell? ⟨gb123, 0, none⟩ = some (.slice Ao37 t145.length co37) := (blk_cell BK123.out 0).trans rfl
                          have hcz43_1 : wr.cell? ⟨gb123, 1, none⟩ = some (.int .i64 t148) := (blk_cell BK123.out 1).trans rfl
                          have hfz43_0 := blk_frozen BK123.out 0
                          have hfz43_1 := blk_frozen BK123.out 1
                          go_wp2_with (first | ((with_reducible refine gate_builtin (b := .append) (xs := #[.tmp 97, .tmp 99]) rfl ?_); at_builtin; refine Kd.R_append (Kd.int .u64) (w0 := w) w.heap.size rfl (.tmp 97) (.tmp 99) 51 38 (.int .u64 0) 8 rfl Try.underlying51 info38 rfl (by decide) (by omega) u4 x4_1 t131 [.int .u64 t131] (fun _ => True) (fun _ => False) rfl rfl ?aP (fun _ hk => hk.elim) ?aF ?aO ?aB ?aS ?aL ?_; (case aP => exact rfl); (case aB => exact (by repeat (first | (with_reducible first | exact HB.out | apply below_alloc | apply pw_below_drewN | apply below_drew1 | refine below_set ?_ GE123.out) | exact HB.out))); (case aF => exact (fun _ _ => trivial)); (case aO => exact (by (with_reducible repeat (first | apply Kd.R_alloc | apply Kd.R_drewN | apply Kd.R_drew)); exact HO_4.out)); (case aS => exact (below_size (by repeat (first | (with_reducible first | exact HB.out | apply below_alloc | apply pw_below_drewN | apply below_drew1 | refine below_set ?_ GE123.out) | exact HB.out)))); (case aL => have := LMc41.out; omega); intro v150 w44 ho hb hg hat; rw [← Ny149.out] at ho; have n0_ := Aside0.mk (Kd.R_over' (by (with_reducible repeat (first | apply Kd.R_alloc | apply Kd.R_drewN | apply Kd.R_drew)); exact HO_5.out) (Kd.R_typed (by (with_reducible repeat (first | apply Kd.R_alloc | apply Kd.R_drewN | apply Kd.R_drew)); exact HO_4.out)) (by decide) hg); have n1_ := Aside0.mk (Kd.R_over' (by (with_reducible repeat (first | apply Kd.R_alloc | apply Kd.R_drewN | apply Kd.R_drew)); exact HO_124000.out) (Kd.R_typed (by (with_reducible repeat (first | apply Kd.R_alloc | apply Kd.R_drewN | apply Kd.R_drew)); exact HO_4.out)) (by decide) hg); have n2_ := Aside0.mk (blk_grown (g := gb123) (o := .cells #[.slice Ao37 t145.length co37, .int .i64 t148] 64 (0, 0)) (by (with_reducible repeat (first | refine blk_drewN ?_ _ | refine blk_drew ?_ | refine blk_alloc ?_ _)); exact BK123.out) hg (Kd.R_ne HO_4.out BK123.out (by decide))); have n3_ := Aside0.mk (hb); have n4_ := Aside0.mk (ho); clear HO_5; clear HO_124000; clear BK123; clear HB; clear HO_4; have HO_5 := n0_; have HO_124000 := n1_; have BK123 := n2_; have HB := n3_; have HO151 := n4_; clear n0_ n1_ n2_ n3_ n4_; clear ho hb hg hat) | ((with_reducible refine gate_builtin (b := .append) (xs := #[.tmp 101, .tmp 103]) rfl ?_); at_builtin; refine Kd.R_append (Kd.int .i64) (w0 := w) w.heap.size rfl (.tmp 101) (.tmp 103) 22 2 (.int .i64 0) 8 rfl Try.underlying22 info2 rfl (by decide) (by omega) u5 x5_1 (wrap64 (2 + t132)) [.int .i64 (wrap64 (2 + t132))] (fun _ => True) (fun _ => False) rfl rfl ?aP (fun _ hk => hk.elim) ?aF ?aO ?aB ?aS ?aL ?_; (case aP => exact rfl); (case aB => exact (by repeat (first | (with_reducible first | exact HB.out | apply below_alloc | apply pw_below_drewN | apply below_drew1 | refine below_set ?_ GE123.out) | exact HB.out))); (case aF => exact (fun _ _ => trivial)); (case aO => exact (by (with_reducible repeat (first | apply Kd.R_alloc | apply Kd.R_drewN | apply Kd.R_drew)); exact HO_5.out)); (case aS => exact (below_size (by repeat (first | (with_reducible first | exact HB.out | apply below_alloc | apply pw_below_drewN | apply below_drew1 | refine below_set ?_ GE123.out) | exact HB.out)))); (case aL => have := LMc42.out; omega); intro v153 w45 ho hb hg hat; rw [← Ny152.out] at ho; have n0_ := Aside0.mk (Kd.R_over' (by (with_reducible repeat (first | apply Kd.R_alloc | apply Kd.R_drewN | apply Kd.R_drew)); exact HO_124000.out) (Kd.R_typed (by (with_reducible repeat (first | apply Kd.R_alloc | apply Kd.R_drewN | apply Kd.R_drew)); exact HO_5.out)) (by decide) hg); have n1_ := Aside0.mk (blk_grown (g := gb123) (o := .cells #[.slice Ao37 t145.length co37, .int .i64 t148] 64 (0, 0)) (by (with_reducible repeat (first | refine blk_drewN ?_ _ | refine blk_drew ?_ | refine blk_alloc ?_ _)); exact BK123.out) hg (Kd.R_ne HO_5.out BK123.out (by decide))); have n2_ := Aside0.mk (Kd.R_over' (by (with_reducible repeat (first | apply Kd.R_alloc | apply Kd.R_drewN | apply Kd.R_drew)); exact HO151.out) (Kd.R_typed (by (with_reducible repeat (first | apply Kd.R_alloc | apply Kd.R_drewN | apply Kd.R_drew)); exact HO_5.out)) (by decide) hg); have n3_ := Aside0.mk (hb); have n4_ := Aside0.mk (ho); clear HO_124000; clear BK123; clear HO151; clear HB; clear HO_5; have HO_124000 := n0_; have BK123 := n1_; have HO151 := n2_; have HB := n3_; have HO154 := n4_; clear n0_ n1_ n2_ n3_ n4_; clear ho hb hg hat))
                          go_roundg k2
                          case measure => have := HK1.out; have := HK2.out; omega
                          case rel => exact ⟨(y149), (y152), (wrap64 (x7_1 + 1)), (t145), (t148), (.slice Ao37 t145.length co37), (by first | rfl | (simp; done) | (simp [*]; done)), H', ⟨by have := HK1.out; have := HK2.out; omega⟩, ⟨by (with_reducible repeat (first | apply Kd.R_alloc | apply Kd.R_drewN | apply Kd.R_drew)); exact HO151.out⟩, ⟨by (with_reducible repeat (first | apply Kd.R_alloc | apply Kd.R_drewN | apply Kd.R_drew)); exact HO154.out⟩, ⟨by (with_reducible repeat (first | apply Kd.R_alloc | apply Kd.R_drewN | apply Kd.R_drew)); exact HO_124000.out⟩, ⟨by (with_reducible repeat (first | refine blk_drewN ?_ _ | refine blk_drew ?_ | refine blk_alloc ?_ _)); exact BK123.out⟩, ⟨by repeat (first | (with_reducible first | exact HB.out | apply below_alloc | apply pw_below_drewN | apply below_drew1 | refine below_set ?_ GE123.out) | exact HB.out)⟩⟩
                        · rw [if_neg c42] at H
                          exact absurd H (by simp)
                      · rw [if_neg c41] at H
                        exact absurd H (by simp)
                    · rw [if_neg c40] at H
                      have c40b0 : (t148 == (wrap64 (x124001_1 + (wrap64 (x11_2 * (wrap64 (2 + t132))))))) = false := beq_eq_false_iff_ne.mpr c40
                      have c40b1 : (t148 != (wrap64 (x124001_1 + (wrap64 (x11_2 * (wrap64 (2 + t132))))))) = true := bne_iff_ne.mpr c40
                      obtain rfl := Option.some.inj H
                      exact absurd hlaw.out (by simp)
                  · rw [if_neg c39] at H
                    have c39b0 : (x12_2 == 0) = false := beq_eq_false_iff_ne.mpr c39
                    have c39b1 : (x12_2 != 0) = true := bne_iff_ne.mpr c39
                    obtain ⟨ji46, hji46⟩ : ∃ j_ : Int, (IntKind.u64.wrap (wrap64 ((wrap64 (2 + t132)) - 1))) = j_ := ⟨_, rfl⟩
                    replace H : (if 0 ≤ (ji46) then (laws_FnBits.l1 k2 l0 x4_1 x5_1 (wrap64 (1 + t130)) x7_1 t131 (wrap64 (2 + t132)) x124001_1 (wrap64 (x11_2 + 1)) (shr .u64 x12_2 (ji46)) t145 t148) else (none)) = some r := by first | (rw [hji46] at H; exact H) | (simp only [hji46] at H ⊢; exact H)
                    by_cases c47 : 0 ≤ (ji46)
                    · rw [if_pos c47] at H
                      have c47b0 := eq_true c47
                      have c47b1 : decide (0 ≤ (ji46)) = true := decide_eq_true c47
                      clear c47
                      obtain ⟨ji48, hji48⟩ : ∃ j_ : Int, (shr .u64 x12_2 (ji46)) = j_ := ⟨_, rfl⟩
                      replace H : (laws_FnBits.l1 k2 l0 x4_1 x5_1 (wrap64 (1 + t130)) x7_1 t131 (wrap64 (2 + t132)) x124001_1 (wrap64 (x11_2 + 1)) ji48 t145 t148) = some r := by first | (rw [hji48] at H; exact H) | (simp only [hji48] at H ⊢; exact H)
                      have hji48_ : (x12_2 / 2 ^ min (ji46).toNat 64) = ji48 := hji48
                      have hji48z : (ji46) ≤ 64 → (x12_2 / 2 ^ (ji46).toNat) = ji48 := shr_small hji48
                      have H' := Aside0.mk H
                      clear H
                      obtain rfl : ji31 = ji46 := hji31.symm.trans hji46
                      go_wp2
                      go_roundg k2
                      case measure => have := HK1.out; have := HK2.out; omega
                      case rel => exact ⟨(wrap64 (x11_2 + 1)), (ji48), (by first | rfl | (simp; done) | (simp [*]; done)), (by first | rfl | (simp; done) | (simp only [← hji48] <;> (first | rfl | simp)) | (simp [*]; done)), H', ⟨by have := HK1.out; have := HK2.out; omega⟩, ⟨by (with_reducible repeat (first | apply Kd.R_alloc | apply Kd.R_drewN | apply Kd.R_drew)); exact HO_4.out⟩, ⟨by (with_reducible repeat (first | apply Kd.R_alloc | apply Kd.R_drewN | apply Kd.R_drew)); exact HO_5.out⟩, ⟨by (with_reducible repeat (first | apply Kd.R_alloc | apply Kd.R_drewN | apply Kd.R_drew)); exact HO_124000.out⟩, ⟨by (with_reducible repeat (first | refine blk_drewN ?_ _ | refine blk_drew ?_ | refine blk_alloc ?_ _)); exact BK123.out⟩, ⟨by repeat (first | (with_reducible first | exact HB.out | apply below_alloc | apply pw_below_drewN | apply below_drew1 | refine below_set ?_ GE123.out) | exact HB.out)⟩⟩
                    · rw [if_neg c47] at H
                      exact absurd H (by simp)
            · rw [if_neg c32] at H
              exact absurd H (by simp)
        · rw [if_neg c10] at H
          have c10b0 : decide (x7_1 < (wrap64 (1 + t130))) = false := decide_eq_false c10
          clear c10
          by_cases c49 : (x124000_1.length : Int) = (wrap64 (Int.tdiv (wrap64 (x124001_1 + 7)) 8))
          · rw [if_pos c49] at H
            have c49b0 : ((x124000_1.length : Int) == (wrap64 (Int.tdiv (wrap64 (x124001_1 + 7)) 8))) = true := beq_iff_eq.mpr c49
            have c49b1 : ((x124000_1.length : Int) != (wrap64 (Int.tdiv (wrap64 (x124001_1 + 7)) 8))) = false := bne_eq_false_iff_eq.mpr c49
            clear c49
            have H' := Aside0.mk H
            clear H
            have hcz50_0 : wr.cell? ⟨gb123, 0, none⟩ = some (u124000) := (blk_cell BK123.out 0).trans rfl
            have hcz50_1 : wr.cell? ⟨gb123, 1, none⟩ = some (.int .i64 x124001_1) := (blk_cell BK123.out 1).trans rfl
            have hfz50_0 := blk_frozen BK123.out 0
            have hfz50_1 := blk_frozen BK123.out 1
            obtain ⟨Ao51, co51, eo51⟩ := Kd.R_slice HO_124000.out
            subst eo51
            go_wp2
            go_loopg [13, 14] k1 (fun kq v13 v14 w' => ∃ (x13_2 : Int) (x14_2 : Int), v13 = .int .i64 x13_2 ∧ v14 = .int .i64 x14_2 ∧ Aside0 (laws_FnBits.l2 kq x4_1 x5_1 (wrap64 (1 + t130)) x13_2 x14_2 x124000_1 x124001_1 = some r) ∧ Aside0 (kq ≤ k1) ∧ Aside0 (Kd.R (Kd.int .u64) 38 w' w.heap.size (fun _ => True) u4 x4_1) ∧ Aside0 (Kd.R (Kd.int .i64) 2 w' w.heap.size (fun _ => True) u5 x5_1) ∧ Aside0 (Kd.R (Kd.int .u8) 5 w' w.heap.size (fun _ => True) (.slice Ao51 x124000_1.length co51) x124000_1) ∧ Aside0 (w'.heap[gb123]? = some (.cells #[(.slice Ao51 x124000_1.length co51), .int .i64 x124001_1] 64 (0, 0))) ∧ Aside0 (Below w.heap.size w w'))
            case atStart => exact ⟨(0), (0), (by first | rfl | (simp; done) | (simp [*]; done)), (by first | rfl | (simp; done) | (simp [*]; done)), H', ⟨Nat.le_refl _⟩, ⟨by (with_reducible repeat (first | apply Kd.R_alloc | apply Kd.R_drewN | apply Kd.R_drew)); exact HO_4.out⟩, ⟨by (with_reducible repeat (first | apply Kd.R_alloc | apply Kd.R_drewN | apply Kd.R_drew)); exact HO_5.out⟩, ⟨by (with_reducible repeat (first | apply Kd.R_alloc | apply Kd.R_drewN | apply Kd.R_drew)); exact HO_124000.out⟩, ⟨by (with_reducible repeat (first | refine blk_drewN ?_ _ | refine blk_drew ?_ | refine blk_alloc ?_ _)); exact BK123.out⟩, ⟨by repeat (first | (with_reducible first | exact HB.out | apply below_alloc | apply pw_below_drewN | apply below_drew1 | refine below_set ?_ GE123.out) | exact HB.out)⟩⟩
            case round =>
              clear H'
              try clear c1
              try clear c2
              try clear c2b0
              try clear c2b1
              try clear p2
              try clear c3
              try clear c4
              try clear c5
              try clear p6
              try clear c10
              try clear c10b0
              try clear c14
              try clear c14b0
              try clear c14b1
              try clear c17
              try clear c17b0
              try clear c17b1
              try clear c20
              try clear c20b0
              try clear c20b1
              try clear c21
              try clear c22
              try clear c32
              try clear c32b0
              try clear c32b1
              try clear c39
              try clear c39b0
              try clear c39b1
              try clear c40
              try clear c40b0
              try clear c40b1
              try clear c41
              try clear c42
              try clear c47
              try clear c47b0
              try clear c47b1
              try clear c49
              try clear c49b0
              try clear c49b1
              try clear hcz23_0
              try clear hcz23_1
              try clear hcz27_0
              try clear hcz27_1
              try clear hcz34_0
              try clear hcz34_1
              try clear hcz38_0
              try clear hcz38_1
              try clear hcz43_0
              try clear hcz43_1
              try clear hcz50_0
              try clear hcz50_1
              try clear hcz5_0
              try clear hcz5_1
              try clear hfz23_0
              try clear hfz23_1
              try clear hfz27_0
              try clear hfz27_1
              try clear hfz34_0
              try clear hfz34_1
              try clear hfz38_0
              try clear hfz38_1
              try clear hfz43_0
              try clear hfz43_1
              try clear hfz50_0
              try clear hfz50_1
              try clear hfz5_0
              try clear hfz5_1
              try clear p2
              try clear p6
              obtain ⟨x13_2, x14_2, rfl, rfl, HA, HK2, HO_4, HO_5, HO_124000, BK123, HB⟩ := hrel
              cases gk with
              | zero => exact absurd HA.out (by simp [laws_FnBits.l2])
              | succ k2 =>
                have H := HA.out
                clear HA
                simp only [laws_FnBits.l2] at H
                by_cases c52 : x14_2 < (wrap64 (1 + t130))
                · rw [if_pos c52] at H
                  have c52b0 : decide (x14_2 < (wrap64 (1 + t130))) = true := decide_eq_true c52
                  clear c52
                  by_cases c53 : 0 ≤ x14_2
                  · rw [if_pos c53] at H
                    have c53b0 : decide (0 ≤ x14_2) = true := decide_eq_true c53
                    clear c53
                    by_cases c54 : x14_2 < (x5_1.length : Int)
                    · rw [if_pos c54] at H
                      have c54b0 : decide (x14_2 < (x5_1.length : Int)) = true := decide_eq_true c54
                      clear c54
                      by_cases c55 : (rd x5_1 x14_2) < 0
                      · rw [if_pos c55] at H
                        have c55b0 : decide ((rd x5_1 x14_2) < 0) = true := decide_eq_true c55
                        clear c55
                        replace H := Option.bind_eq_some_iff.mp H
                        obtain ⟨⟨t161, t162, t163⟩, A560, H⟩ := H
                        replace H : (if t161 = true then (if x14_2 < (x4_1.length : Int) then (if t162 = (rd x4_1 x14_2) then (if t163 ≤ x13_2 then (some false) else (laws_FnBits.l2 k2 x4_1 x5_1 (wrap64 (1 + t130)) t163 (wrap64 (x14_2 + 1)) x124000_1 x124001_1)) else (some false)) else (none)) else (some false)) = some r := H
                        have A56 := Aside0.mk A560
                        clear A560
                        by_cases c57 : t161 = true
                        · subst c57
                          have H1 : (if x14_2 < (x4_1.length : Int) then (if t162 = (rd x4_1 x14_2) then (if t163 ≤ x13_2 then (some false) else (laws_FnBits.l2 k2 x4_1 x5_1 (wrap64 (1 + t130)) t163 (wrap64 (x14_2 + 1)) x124000_1 x124001_1)) else (some false)) else (none)) = some r := by rw [if_pos rfl] at H; exact H
                          clear H
                          have H := H1
                          clear H1
                          by_cases c58 : x14_2 < (x4_1.length : Int)
                          · rw [if_pos c58] at H
                            have c58b0 : decide (x14_2 < (x4_1.length : Int)) = true := decide_eq_true c58
                            clear c58
                            by_cases c59 : t162 = (rd x4_1 x14_2)
                            · rw [if_pos c59] at H
                              have c59b0 : (t162 == (rd x4_1 x14_2)) = true := beq_iff_eq.mpr c59
                              have c59b1 : (t162 != (rd x4_1 x14_2)) = false := bne_eq_false_iff_eq.mpr c59
                              clear c59
                              by_cases c60 : t163 ≤ x13_2
                              · rw [if_pos c60] at H
                                have c60b0 : decide (t163 ≤ x13_2) = true := decide_eq_true c60
                                clear c60
                                obtain rfl := Option.some.inj H
                                exact absurd hlaw.out (by simp)
                              · rw [if_neg c60] at H
                                have c60b0 : decide (t163 ≤ x13_2) = false := decide_eq_false c60
                                clear c60
                                have H' := Aside0.mk H
                                clear H
                                try go_wp2_with (first | ((with_reducible refine gate_dst (N := 15) rfl ?_); refine box_event ?hg (N := 15) ?hd (cs := #[.bool false, .int .u64 0, .int .i64 0]) (t := 62) ?hr ?_; (case hd => rfl); (case hg => rfl); (case hr => first | (go_simp; done) | (go_simp; rfl)); intro gb158 hg w61 hbox hb; have n0_ := Aside0.mk (Kd.R_below (by (with_reducible repeat (first | apply Kd.R_alloc | apply Kd.R_drewN | apply Kd.R_drew)); exact HO_4.out) hb); have n1_ := Aside0.mk (Kd.R_below (by (with_reducible repeat (first | apply Kd.R_alloc | apply Kd.R_drewN | apply Kd.R_drew)); exact HO_5.out) hb); have n2_ := Aside0.mk (Kd.R_below (by (with_reducible repeat (first | apply Kd.R_alloc | apply Kd.R_drewN | apply Kd.R_drew)); exact HO_124000.out) hb); have n3_ := Aside0.mk (blk_below (g := gb123) (o := .cells #[.slice Ao51 x124000_1.length co51, .int .i64 x124001_1] 64 (0, 0)) (by (with_reducible repeat (first | refine blk_drewN ?_ _ | refine blk_drew ?_ | refine blk_alloc ?_ _)); exact BK123.out) hb); have n4_ := Aside0.mk (below_step (by repeat (first | (with_reducible first | exact HB.out | apply below_alloc | apply pw_below_drewN | apply below_drew1 | refine below_set ?_ GE123.out) | exact HB.out)) hb); have n5_ := Aside0.mk (hbox); have n6_ := Aside0.mk ((by rw [hg]; exact (below_size (by repeat (first | (with_reducible first | exact HB.out | apply below_alloc | apply pw_below_drewN | apply below_drew1 | refine below_set ?_ GE123.out) | exact HB.out))) : w.heap.size ≤ gb158)); have n7_ := Aside0.mk ((by rw [hg]; exact (below_size (by repeat (first | (with_reducible first | exact HB.out | apply below_alloc | apply pw_below_drewN | apply below_drew1 | refine below_set ?_ GE123.out) | exact HB.out))) : w.heap.size ≤ gb158)); have n8_ := Aside0.mk ((by rw [hg]; exact Nat.ne_of_lt (blk_lt (g := gb123) (o := .cells #[.slice Ao51 x124000_1.length co51, .int .i64 x124001_1] 64 (0, 0)) (by (with_reducible repeat (first | refine blk_drewN ?_ _ | refine blk_drew ?_ | refine blk_alloc ?_ _)); exact BK123.out)) : gb123 ≠ gb158)); have n9_ := Aside0.mk ((by rw [hg]; exact Nat.ne_of_gt (blk_lt (g := gb123) (o := .cells #[.slice Ao51 x124000_1.length co51, .int .i64 x124001_1] 64 (0, 0)) (by (with_reducible repeat (first | refine blk_drewN ?_ _ | refine blk_drew ?_ | refine blk_alloc ?_ _)); exact BK123.out)) : gb158 ≠ gb123)); clear HO_4; clear HO_5; clear HO_124000; clear BK123; clear HB; have HO_4 := n0_; have HO_5 := n1_; have HO_124000 := n2_; have BK123 := n3_; have HB := n4_; have BK158 := n5_; have GW158 := n6_; have GE158 := n7_; have NB123_158 := n8_; have NB158_123 := n9_; clear n0_ n1_ n2_ n3_ n4_ n5_ n6_ n7_ n8_ n9_; clear hb hbox hg; have hnb62 := NB158_123.out; have hnc62 := NB123_158.out; have hcz63_0 : w61.cell? ⟨gb158, 0, none⟩ = some (.bool false) := (blk_cell BK158.out 0).trans rfl; have hcz63_1 : w61.cell? ⟨gb158, 1, none⟩ = some (.int .u64 0) := (blk_cell BK158.out 1).trans rfl; have hcz63_2 : w61.cell? ⟨gb158, 2, none⟩ = some (.int .i64 0) := (blk_cell BK158.out 2).trans rfl; have hfz63_0 := blk_frozen BK158.out 0; have hfz63_1 := blk_frozen BK158.out 1; have hfz63_2 := blk_frozen BK158.out 2; obtain ⟨Ao64, co64, eo64⟩ := Kd.R_slice HO_5.out; subst eo64; have p159 : 0 ≤ (x14_2 : Int) := of_decide_eq_true (by first | (with_reducible assumption) | assumption); have q159 : x14_2 < (x5_1.length : Int) := of_decide_eq_true (by first | (with_reducible assumption) | assumption); obtain ⟨ad159, e159, hx159_0⟩ := Kd.at_int (Kd.R_reads' HO_5.out).2.2 x14_2 p159 q159; cases e159; have hn159_0 : ad159.block ≠ gb158 := Kd.own_blk (Kd.R_ne HO_5.out BK158.out (by decide)); have hn159_1 : ad159.block ≠ gb158 := Kd.own_blk (Kd.R_ne HO_5.out BK158.out (by decide)); have hn159_2 : ad159.block ≠ gb158 := Kd.own_blk (Kd.R_ne HO_5.out BK158.out (by decide)); replace hx159_0 := (cell_far (p := ⟨gb158, 0, none⟩) (by first | (rw [add_block]; exact hn159_0) | (show (Addr.add _ _).block ≠ _; rw [add_block]; exact hn159_0) | exact hn159_0) (.bool false)).trans hx159_0; replace hx159_0 := (cell_far (p := ⟨gb158, 1, none⟩) (by first | (rw [add_block]; exact hn159_1) | (show (Addr.add _ _).block ≠ _; rw [add_block]; exact hn159_1) | exact hn159_1) (.int .u64 0)).trans hx159_0; replace hx159_0 := (cell_far (p := ⟨gb158, 2, none⟩) (by first | (rw [add_block]; exact hn159_2) | (show (Addr.add _ _).block ≠ _; rw [add_block]; exact hn159_2) | exact hn159_2) (.int .i64 0)).trans hx159_0; clear hn159_0; clear hn159_1; clear hn159_2; replace p159 := eq_true p159; replace q159 := eq_true q159))
                                have n0_ : Aside0 (Kd.R (Kd.int .u64) 38 (((w61.setCell ⟨gb158, 0, none⟩ (.bool false)).setCell ⟨gb158, 1, none⟩ (.int .u64 0)).setCell ⟨gb158, 2, none⟩ (.int .i64 0)) w.heap.size (fun _ => True) u4 x4_1) := ⟨by (with_reducible repeat (first | apply Kd.R_alloc | apply Kd.R_drewN | apply Kd.R_drew)); exact Kd.R_mono (Kd.R_far (p := ⟨gb158, 2, none⟩) (Kd.R_far (p := ⟨gb158, 1, none⟩) (Kd.R_far (p := ⟨gb158, 0, none⟩) (Kd.R_types HO_4.out BK158.out (by decide)) (fun _ hk => hk.2) (.bool false)) (fun _ hk => hk.2) (.int .u64 0)) (fun _ hk => hk.2) (.int .i64 0)) (fun _ hk => trivial)⟩
                                have n1_ : Aside0 (Kd.R (Kd.int .i64) 2 (((w61.setCell ⟨gb158, 0, none⟩ (.bool false)).setCell ⟨gb158, 1, none⟩ (.int .u64 0)).setCell ⟨gb158, 2, none⟩ (.int .i64 0)) w.heap.size (fun _ => True) (.slice (some ad159) x5_1.length co64) x5_1) := ⟨by (with_reducible repeat (first | apply Kd.R_alloc | apply Kd.R_drewN | apply Kd.R_drew)); exact Kd.R_mono (Kd.R_far (p := ⟨gb158, 2, none⟩) (Kd.R_far (p := ⟨gb158, 1, none⟩) (Kd.R_far (p := ⟨gb158, 0, none⟩) (Kd.R_types HO_5.out BK158.out (by decide)) (fun _ hk => hk.2) (.bool false)) (fun _ hk => hk.2) (.int .u64 0)) (fun _ hk => hk.2) (.int .i64 0)) (fun _ hk => trivial)⟩
                                have n2_ : Aside0 (Kd.R (Kd.int .u8) 5 (((w61.setCell ⟨gb158, 0, none⟩ (.bool false)).setCell ⟨gb158, 1, none⟩ (.int .u64 0)).setCell ⟨gb158, 2, none⟩ (.int .i64 0)) w.heap.size (fun _ => True) (.slice Ao51 x124000_1.length co51) x124000_1) := ⟨by (with_reducible repeat (first | apply Kd.R_alloc | apply Kd.R_drewN | apply Kd.R_drew)); exact Kd.R_mono (Kd.R_far (p := ⟨gb158, 2, none⟩) (Kd.R_far (p := ⟨gb158, 1, none⟩) (Kd.R_far (p := ⟨gb158, 0, none⟩) (Kd.R_types HO_124000.out BK158.out (by decide)) (fun _ hk => hk.2) (.bool false)) (fun _ hk => hk.2) (.int .u64 0)) (fun _ hk => hk.2) (.int .i64 0)) (fun _ hk => trivial)⟩
                                have n3_ : Aside0 ((((w61.setCell ⟨gb158, 0, none⟩ (.bool false)).setCell ⟨gb158, 1, none⟩ (.int .u64 0)).setCell ⟨gb158, 2, none⟩ (.int .i64 0)).heap[gb123]? = some (.cells #[.slice Ao51 x124000_1.length co51, .int .i64 x124001_1] 64 (0, 0))) := ⟨by (with_reducible repeat (first | refine blk_drewN ?_ _ | refine blk_drew ?_ | refine blk_alloc ?_ _)); refine blk_far ?_ NB123_158.out _; (with_reducible repeat (first | refine blk_drewN ?_ _ | refine blk_drew ?_ | refine blk_alloc ?_ _)); refine blk_far ?_ NB123_158.out _; (with_reducible repeat (first | refine blk_drewN ?_ _ | refine blk_drew ?_ | refine blk_alloc ?_ _)); refine blk_far ?_ NB123_158.out _; (with_reducible repeat (first | refine blk_drewN ?_ _ | refine blk_drew ?_ | refine blk_alloc ?_ _)); exact BK123.out⟩
                                have n4_ : Aside0 ((((w61.setCell ⟨gb158, 0, none⟩ (.bool false)).setCell ⟨gb158, 1, none⟩ (.int .u64 0)).setCell ⟨gb158, 2, none⟩ (.int .i64 0)).heap[gb158]? = some (.cells #[.bool false, .int .u64 0, .int .i64 0] 62 (0, 0))) := ⟨by (with_reducible repeat (first | refine blk_drewN ?_ _ | refine blk_drew ?_ | refine blk_alloc ?_ _)); refine blk_put (cs := #[.bool false, .int .u64 0, .int .i64 0]) ?_ 2 _ rfl; (with_reducible repeat (first | refine blk_drewN ?_ _ | refine blk_drew ?_ | refine blk_alloc ?_ _)); refine blk_put (cs := #[.bool false, .int .u64 0, .int .i64 0]) ?_ 1 _ rfl; (with_reducible repeat (first | refine blk_drewN ?_ _ | refine blk_drew ?_ | refine blk_alloc ?_ _)); refine blk_put (cs := #[.bool false, .int .u64 0, .int .i64 0]) ?_ 0 _ rfl; (with_reducible repeat (first | refine blk_drewN ?_ _ | refine blk_drew ?_ | refine blk_alloc ?_ _)); exact BK158.out⟩
                                have n5_ : Aside0 (Below w.heap.size w (((w61.setCell ⟨gb158, 0, none⟩ (.bool false)).setCell ⟨gb158, 1, none⟩ (.int .u64 0)).setCell ⟨gb158, 2, none⟩ (.int .i64 0))) := ⟨by repeat (first | (with_reducible first | exact HB.out | apply below_alloc | apply pw_below_drewN | apply below_drew1 | refine below_set ?_ GE123.out | refine below_set ?_ GE158.out) | exact HB.out)⟩
                                (try clear HO_4)
                                (try clear HO_5)
                                (try clear HO_124000)
                                (try clear BK123)
                                (try clear BK158)
                                (try clear HB)
                                generalize (((w61.setCell ⟨gb158, 0, none⟩ (.bool false)).setCell ⟨gb158, 1, none⟩ (.int .u64 0)).setCell ⟨gb158, 2, none⟩ (.int .i64 0)) = w65 at n0_ n1_ n2_ n3_ n4_ n5_ ⊢
                                have HO_4 := n0_
                                have HO_5 := n1_
                                have HO_124000 := n2_
                                have BK123 := n3_
                                have BK158 := n4_
                                have HB := n5_
                                clear n0_ n1_ n2_ n3_ n4_ n5_
                                have n0_ := Aside0.mk (Kd.R_drew HO_4.out)
                                have n1_ := Aside0.mk (Kd.R_drew HO_5.out)
                                have n2_ := Aside0.mk (Kd.R_drew HO_124000.out)
                                have n3_ := Aside0.mk (blk_drew BK123.out)
                                have n4_ := Aside0.mk (blk_drew BK158.out)
                                have n5_ := Aside0.mk (below_drew1 HB.out)
                                clear HO_4
                                clear HO_5
                                clear HO_124000
                                clear BK123
                                clear BK158
                                clear HB
                                have HO_4 := n0_
                                have HO_5 := n1_
                                have HO_124000 := n2_
                                have BK123 := n3_
                                have BK158 := n4_
                                have HB := n5_
                                clear n0_ n1_ n2_ n3_ n4_ n5_
                                have p160 : 0 ≤ (x14_2 : Int) := of_decide_eq_true (by first | (with_reducible assumption) | assumption)
                                have q160 : x14_2 < (x5_1.length : Int) := of_decide_eq_true (by first | (with_reducible assumption) | assumption)
                                obtain ⟨ad160, e160, hx160_0⟩ := Kd.at_int (Kd.R_reads' HO_5.out).2.2 x14_2 p160 q160
                                obtain rfl : ad159 = ad160 := (by injection e160)
                                replace p160 := eq_true p160
                                replace q160 := eq_true q160
                                refine start_ (n := 9) (S := fun w' => w'.cell? ⟨gb123, 0, none⟩ = some (.slice Ao51 x124000_1.length co51) ∧ w'.cell? ⟨gb123, 1, none⟩ = some (.int .i64 x124001_1) ∧ w'.cell? (ad159.add (x14_2).toNat) = some (.int .i64 (rd x5_1 x14_2))) (ds := []) #[false, false, false, false, false, false, false, false, false] (by kernel_rfl) rfl rfl ⟨(blk_cell BK123.out 0).trans rfl, (blk_cell BK123.out 1).trans rfl, hx160_0⟩ (fun hHeld => ?_); refine with_tabW laws_FnBits.tab37 laws_FnBits.bits37 (fun HT_ HW_ => ?_)
                                generalize w65.drew = w66 at HO_4 HO_5 HO_124000 BK123 BK158 HB hx160_0 hHeld ⊢
                                refine pure_ (i := 1) (N := some 125) (v := ?_) (a' := ?_) #[false, true, false, false, false, false, false, false, false] rfl rfl (any_of HT_.out (by kernel_rfl)) (fun _ _ _ h => h) (Or.inl ⟨by rfl, ?_⟩) ?_ ?_
                                rotate_left
                                · intro w'
                                  go_simp
                                  with_reducible rfl
                                rotate_left
                                · simp only [Act.put, List.setIfInBounds_toArray, List.set_cons_zero, List.set_cons_succ, i64_w, i32_w]
                                  rfl
                                refine pure_ (i := 2) (N := some 126) (v := ?_) (a' := ?_) #[false, true, true, false, false, false, false, false, false] rfl rfl (any_of HT_.out (by kernel_rfl)) (fun _ _ _ h => h) (Or.inl ⟨by rfl, ?_⟩) ?_ ?_
                                rotate_left
                                · intro w'
                                  go_simp
                                  with_reducible rfl
                                rotate_left
                                · simp only [Act.put, List.setIfInBounds_toArray, List.set_cons_zero, List.set_cons_succ, i64_w, i32_w]
                                  rfl
                                refine pure_ (i := 3) (N := some 127) (v := ?_) (a' := ?_) #[false, true, true, true, false, false, false, false, false] rfl rfl (any_of HT_.out (by kernel_rfl)) (fun _ _ _ h => h) (Or.inl ⟨by rfl, ?_⟩) ?_ ?_
                                rotate_left
                                · intro w'
                                  go_simp
                                  with_reducible rfl
                                rotate_left
                                · simp only [Act.put, List.setIfInBounds_toArray, List.set_cons_zero, List.set_cons_succ, i64_w, i32_w]
                                  rfl
                                refine pure_ (i := 4) (N := some 128) (v := ?_) (a' := ?_) #[false, true, true, true, true, false, false, false, false] rfl rfl (any_of HT_.out (by kernel_rfl)) (fun _ _ _ h => h) (Or.inl ⟨by rfl, ?_⟩) ?_ ?_
                                rotate_left
                                · intro w'
                                  go_simp
                                  with_reducible rfl
                                rotate_left
                                · simp only [Act.put, List.setIfInBounds_toArray, List.set_cons_zero, List.set_cons_succ, i64_w, i32_w]
                                  rfl
                                refine take_ (i := 0) (N := some 124) (v := ?_) (a' := ?_) #[true, true, true, true, true, false, false, false, false] rfl rfl (take_ofW HT_.out HW_.out (by kernel_rfl)) (fun _ _ _ h => h) (Or.inl ⟨by rfl, ?_⟩) hHeld ?_ ?_
                                rotate_left
                                · rintro w' ⟨s0, s1, s2⟩
                                  go_simp
                                  with_reducible rfl
                                rotate_left
                                · simp only [Act.put, List.setIfInBounds_toArray, List.set_cons_zero, List.set_cons_succ, i64_w, i32_w]
                                  rfl
                                refine take_ (i := 5) (N := some 129) (v := ?_) (a' := ?_) #[true, true, true, true, true, true, false, false, false] rfl rfl (take_ofW HT_.out HW_.out (by kernel_rfl)) (fun _ _ _ h => h) (Or.inl ⟨by rfl, ?_⟩) hHeld ?_ ?_
                                rotate_left
                                · rintro w' ⟨s0, s1, s2⟩
                                  go_simp
                                  with_reducible rfl
                                rotate_left
                                · simp only [Act.put, List.setIfInBounds_toArray, List.set_cons_zero, List.set_cons_succ, i64_w, i32_w]
                                  rfl
                                refine pure_ (i := 6) (N := some 130) (v := ?_) (a' := ?_) #[true, true, true, true, true, true, true, false, false] rfl rfl (any_of HT_.out (by kernel_rfl)) (fun _ _ _ h => h) (Or.inl ⟨by rfl, ?_⟩) ?_ ?_
                                rotate_left
                                · intro w'
                                  go_simp
                                  with_reducible rfl
                                rotate_left
                                · simp only [Act.put, List.setIfInBounds_toArray, List.set_cons_zero, List.set_cons_succ, i64_w, i32_w]
                                  rfl
                                refine one_ (i := 7) (N := some 131) #[true, true, true, true, true, true, true, true, false] rfl rfl (one_of HT_.out (by kernel_rfl)) (by decide) (fun K hK => ?_)
                                refine goes_ Try.func39 (by kernel_rfl) rfl #[.agg #[.slice Ao51 x124000_1.length co51, .int .i64 x124001_1], .int .i64 x13_2, .int .i64 (wrap64 (-(rd x5_1 x14_2)))] (by rfl) rfl rfl (by (try simp only [List.map_toArray, List.map_cons, List.map_nil]); first | done | rfl | (simp only [List.length_drop, List.length_take]; rfl)) ?_
                                with_reducible refine (impl_GetBits.calls k2 _ _ x124000_1 x124001_1 x13_2 (wrap64 (-(rd x5_1 x14_2))) true t162 t163 _ ?side1 ?side2 A56.out).mono ?_
                                (case side1 => repeat (first | exact (Kd.R_reads' HO_124000.out).2.2 | (with_reducible refine Kd.C_alloc ?_ _) | (with_reducible refine Kd.C_drewN ?_ _) | (with_reducible refine Kd.C_drew ?_)))
                                (case side2 => exact (Kd.R_reads' HO_124000.out).2.1)
                                rintro e w67 ⟨rfl, hb⟩
                                have HS2_ := (hb.cell (World.block_lt_of_cell? _ _ (hHeld.2.2))).trans (hHeld.2.2)
                                refine ⟨_, rfl, ?_⟩
                                have n0_ := Aside0.mk (Kd.R_below (by (with_reducible repeat (first | apply Kd.R_alloc | apply Kd.R_drewN | apply Kd.R_drew)); exact HO_4.out) hb)
                                have n1_ := Aside0.mk (Kd.R_below (by (with_reducible repeat (first | apply Kd.R_alloc | apply Kd.R_drewN | apply Kd.R_drew)); exact HO_5.out) hb)
                                have n2_ := Aside0.mk (Kd.R_below (by (with_reducible repeat (first | apply Kd.R_alloc | apply Kd.R_drewN | apply Kd.R_drew)); exact HO_124000.out) hb)
                                have n3_ := Aside0.mk (blk_below (g := gb123) (o := .cells #[.slice Ao51 x124000_1.length co51, .int .i64 x124001_1] 64 (0, 0)) (by (with_reducible repeat (first | refine blk_drewN ?_ _ | refine blk_drew ?_ | refine blk_alloc ?_ _)); exact BK123.out) hb)
                                have n4_ := Aside0.mk (blk_below (g := gb158) (o := .cells #[.bool false, .int .u64 0, .int .i64 0] 62 (0, 0)) (by (with_reducible repeat (first | refine blk_drewN ?_ _ | refine blk_drew ?_ | refine blk_alloc ?_ _)); exact BK158.out) hb)
                                have n5_ := Aside0.mk (below_step (by repeat (first | (with_reducible first | exact HB.out | apply below_alloc | apply pw_below_drewN | apply below_drew1 | refine below_set ?_ GE123.out | refine below_set ?_ GE158.out) | exact HB.out)) hb)
                                clear HO_4
                                clear HO_5
                                clear HO_124000
                                clear BK123
                                clear BK158
                                clear HB
                                have HO_4 := n0_
                                have HO_5 := n1_
                                have HO_124000 := n2_
                                have BK123 := n3_
                                have BK158 := n4_
                                have HB := n5_
                                clear n0_ n1_ n2_ n3_ n4_ n5_
                                (try clear hb)
                                (try clear hb2)
                                (try clear hk)
                                (try clear hi)
                                refine hK.out _ _ ⟨(blk_cell BK123.out 0).trans rfl, (blk_cell BK123.out 1).trans rfl, HS2_⟩ (fun hHeld => ?_)
                                clear hK K
                                refine norm_ (a' := ?_) ?_ ?_
                                rotate_left
                                · show Act.put _ (some 131) _ = _
                                  simp only [Act.put, List.setIfInBounds_toArray, List.set_cons_zero, List.set_cons_succ, i64_w, i32_w]
                                  rfl
                                refine one_ (i := 8) (N := none) #[true, true, true, true, true, true, true, true, true] rfl rfl (one_of HT_.out (by kernel_rfl)) (by decide) (fun K hK => ?_)
                                have hs68 : w67.cell? ⟨gb158, 0, none⟩ = some (.bool false) := (blk_cell BK158.out 0).trans rfl
                                have hfs68 := blk_frozen BK158.out 0
                                have hns68_0 := NB123_158.out
                                have hms68_0 := NB158_123.out
                                have hs69 : w67.cell? ⟨gb158, 1, none⟩ = some (.int .u64 0) := (blk_cell BK158.out 1).trans rfl
                                have hfs69 := blk_frozen BK158.out 1
                                have hns69_0 := NB123_158.out
                                have hms69_0 := NB158_123.out
                                have hs70 : w67.cell? ⟨gb158, 2, none⟩ = some (.int .i64 0) := (blk_cell BK158.out 2).trans rfl
                                have hfs70 := blk_frozen BK158.out 2
                                have hns70_0 := NB123_158.out
                                have hms70_0 := NB158_123.out
                                refine skip_ (w1 := ?_) (by rfl) rfl ?_ ?_
                                rotate_left
                                · go_simp
                                  rfl
                                refine hK.out _ _ ⟨((cell_far (p := ⟨gb158, _, none⟩) NB123_158.out _).trans (((cell_far (p := ⟨gb158, _, none⟩) NB123_158.out _).trans (((cell_far (p := ⟨gb158, _, none⟩) NB123_158.out _).trans (hHeld.1)))))), ((cell_far (p := ⟨gb158, _, none⟩) NB123_158.out _).trans (((cell_far (p := ⟨gb158, _, none⟩) NB123_158.out _).trans (((cell_far (p := ⟨gb158, _, none⟩) NB123_158.out _).trans (hHeld.2.1)))))), ((cell_far (p := ⟨gb158, _, none⟩) (by first | exact Kd.own_blk (Kd.R_ne HO_5.out BK158.out (by decide)) | (rw [add_block]; exact Kd.own_blk (Kd.R_ne HO_5.out BK158.out (by decide))) | (show (Addr.add _ _).block ≠ _; rw [add_block]; exact Kd.own_blk (Kd.R_ne HO_5.out BK158.out (by decide))) | (dsimp only; exact Kd.own_blk (Kd.R_ne HO_5.out BK158.out (by decide)))) _).trans (((cell_far (p := ⟨gb158, _, none⟩) (by first | exact Kd.own_blk (Kd.R_ne HO_5.out BK158.out (by decide)) | (rw [add_block]; exact Kd.own_blk (Kd.R_ne HO_5.out BK158.out (by decide))) | (show (Addr.add _ _).block ≠ _; rw [add_block]; exact Kd.own_blk (Kd.R_ne HO_5.out BK158.out (by decide))) | (dsimp only; exact Kd.own_blk (Kd.R_ne HO_5.out BK158.out (by decide)))) _).trans (((cell_far (p := ⟨gb158, _, none⟩) (by first | exact Kd.own_blk (Kd.R_ne HO_5.out BK158.out (by decide)) | (rw [add_block]; exact Kd.own_blk (Kd.R_ne HO_5.out BK158.out (by decide))) | (show (Addr.add _ _).block ≠ _; rw [add_block]; exact Kd.own_blk (Kd.R_ne HO_5.out BK158.out (by decide))) | (dsimp only; exact Kd.own_blk (Kd.R_ne HO_5.out BK158.out (by decide)))) _).trans (hHeld.2.2))))))⟩ (fun hHeld => ?_)
                                clear hK K
                                refine done_ (done_of HT_.out (by kernel_rfl)) ?_
                                try go_wp2
                                have n0_ : Aside0 (Kd.R (Kd.int .u64) 38 (((w67.setCell ⟨gb158, 0, none⟩ (.bool true)).setCell ⟨gb158, 1, none⟩ (.int .u64 t162)).setCell ⟨gb158, 2, none⟩ (.int .i64 t163)) w.heap.size (fun _ => True) u4 x4_1) := ⟨by (with_reducible repeat (first | apply Kd.R_alloc | apply Kd.R_drewN | apply Kd.R_drew)); exact Kd.R_mono (Kd.R_far (p := ⟨gb158, 2, none⟩) (Kd.R_far (p := ⟨gb158, 1, none⟩) (Kd.R_far (p := ⟨gb158, 0, none⟩) (Kd.R_types HO_4.out BK158.out (by decide)) (fun _ hk => hk.2) (.bool true)) (fun _ hk => hk.2) (.int .u64 t162)) (fun _ hk => hk.2) (.int .i64 t163)) (fun _ hk => trivial)⟩
                                have n1_ : Aside0 (Kd.R (Kd.int .i64) 2 (((w67.setCell ⟨gb158, 0, none⟩ (.bool true)).setCell ⟨gb158, 1, none⟩ (.int .u64 t162)).setCell ⟨gb158, 2, none⟩ (.int .i64 t163)) w.heap.size (fun _ => True) (.slice (some ad159) x5_1.length co64) x5_1) := ⟨by (with_reducible repeat (first | apply Kd.R_alloc | apply Kd.R_drewN | apply Kd.R_drew)); exact Kd.R_mono (Kd.R_far (p := ⟨gb158, 2, none⟩) (Kd.R_far (p := ⟨gb158, 1, none⟩) (Kd.R_far (p := ⟨gb158, 0, none⟩) (Kd.R_types HO_5.out BK158.out (by decide)) (fun _ hk => hk.2) (.bool true)) (fun _ hk => hk.2) (.int .u64 t162)) (fun _ hk => hk.2) (.int .i64 t163)) (fun _ hk => trivial)⟩
                                have n2_ : Aside0 (Kd.R (Kd.int .u8) 5 (((w67.setCell ⟨gb158, 0, none⟩ (.bool true)).setCell ⟨gb158, 1, none⟩ (.int .u64 t162)).setCell ⟨gb158, 2, none⟩ (.int .i64 t163)) w.heap.size (fun _ => True) (.slice Ao51 x124000_1.length co51) x124000_1) := ⟨by (with_reducible repeat (first | apply Kd.R_alloc | apply Kd.R_drewN | apply Kd.R_drew)); exact Kd.R_mono (Kd.R_far (p := ⟨gb158, 2, none⟩) (Kd.R_far (p := ⟨gb158, 1, none⟩) (Kd.R_far (p := ⟨gb158, 0, none⟩) (Kd.R_types HO_124000.out BK158.out (by decide)) (fun _ hk => hk.2) (.bool true)) (fun _ hk => hk.2) (.int .u64 t162)) (fun _ hk => hk.2) (.int .i64 t163)) (fun _ hk => trivial)⟩
                                have n3_ : Aside0 ((((w67.setCell ⟨gb158, 0, none⟩ (.bool true)).setCell ⟨gb158, 1, none⟩ (.int .u64 t162)).setCell ⟨gb158, 2, none⟩ (.int .i64 t163)).heap[gb123]? = some (.cells #[.slice Ao51 x124000_1.length co51, .int .i64 x124001_1] 64 (0, 0))) := ⟨by (with_reducible repeat (first | refine blk_drewN ?_ _ | refine blk_drew ?_ | refine blk_alloc ?_ _)); refine blk_far ?_ NB123_158.out _; (with_reducible repeat (first | refine blk_drewN ?_ _ | refine blk_drew ?_ | refine blk_alloc ?_ _)); refine blk_far ?_ NB123_158.out _; (with_reducible repeat (first | refine blk_drewN ?_ _ | refine blk_drew ?_ | refine blk_alloc ?_ _)); refine blk_far ?_ NB123_158.out _; (with_reducible repeat (first | refine blk_drewN ?_ _ | refine blk_drew ?_ | refine blk_alloc ?_ _)); exact BK123.out⟩
                                have n4_ : Aside0 ((((w67.setCell ⟨gb158, 0, none⟩ (.bool true)).setCell ⟨gb158, 1, none⟩ (.int .u64 t162)).setCell ⟨gb158, 2, none⟩ (.int .i64 t163)).heap[gb158]? = some (.cells #[.bool true, .int .u64 t162, .int .i64 t163] 62 (0, 0))) := ⟨by (with_reducible repeat (first | refine blk_drewN ?_ _ | refine blk_drew ?_ | refine blk_alloc ?_ _)); refine blk_put (cs := #[.bool true, .int .u64 t162, .int .i64 0]) ?_ 2 _ rfl; (with_reducible repeat (first | refine blk_drewN ?_ _ | refine blk_drew ?_ | refine blk_alloc ?_ _)); refine blk_put (cs := #[.bool true, .int .u64 0, .int .i64 0]) ?_ 1 _ rfl; (with_reducible repeat (first | refine blk_drewN ?_ _ | refine blk_drew ?_ | refine blk_alloc ?_ _)); refine blk_put (cs := #[.bool false, .int .u64 0, .int .i64 0]) ?_ 0 _ rfl; (with_reducible repeat (first | refine blk_drewN ?_ _ | refine blk_drew ?_ | refine blk_alloc ?_ _)); exact BK158.out⟩
                                have n5_ : Aside0 (Below w.heap.size w (((w67.setCell ⟨gb158, 0, none⟩ (.bool true)).setCell ⟨gb158, 1, none⟩ (.int .u64 t162)).setCell ⟨gb158, 2, none⟩ (.int .i64 t163))) := ⟨by repeat (first | (with_reducible first | exact HB.out | apply below_alloc | apply pw_below_drewN | apply below_drew1 | refine below_set ?_ GE123.out | refine below_set ?_ GE158.out) | exact HB.out)⟩
                                (try clear HO_4)
                                (try clear HO_5)
                                (try clear HO_124000)
                                (try clear BK123)
                                (try clear BK158)
                                (try clear HB)
                                generalize (((w67.setCell ⟨gb158, 0, none⟩ (.bool true)).setCell ⟨gb158, 1, none⟩ (.int .u64 t162)).setCell ⟨gb158, 2, none⟩ (.int .i64 t163)) = w71 at n0_ n1_ n2_ n3_ n4_ n5_ ⊢
                                have HO_4 := n0_
                                have HO_5 := n1_
                                have HO_124000 := n2_
                                have BK123 := n3_
                                have BK158 := n4_
                                have HB := n5_
                                clear n0_ n1_ n2_ n3_ n4_ n5_
                                have n0_ := Aside0.mk (Kd.R_drew HO_4.out)
                                have n1_ := Aside0.mk (Kd.R_drew HO_5.out)
                                have n2_ := Aside0.mk (Kd.R_drew HO_124000.out)
                                have n3_ := Aside0.mk (blk_drew BK123.out)
                                have n4_ := Aside0.mk (blk_drew BK158.out)
                                have n5_ := Aside0.mk (below_drew1 HB.out)
                                clear HO_4
                                clear HO_5
                                clear HO_124000
                                clear BK123
                                clear BK158
                                clear HB
                                have HO_4 := n0_
                                have HO_5 := n1_
                                have HO_124000 := n2_
                                have BK123 := n3_
                                have BK158 := n4_
                                have HB := n5_
                                clear n0_ n1_ n2_ n3_ n4_ n5_
                                obtain ⟨Ao73, co73, eo73⟩ := Kd.R_slice HO_4.out
                                (first | subst eo73 | (injection eo73 with f1_ f2_ f3_; have f4_ := f1_.symm; have f5_ := f3_.symm; clear f1_ f2_ f3_; subst f4_; subst f5_))
                                have p164 : 0 ≤ (x14_2 : Int) := of_decide_eq_true (by first | (with_reducible assumption) | assumption)
                                have q164 : x14_2 < (x4_1.length : Int) := of_decide_eq_true (by first | (with_reducible assumption) | assumption)
                                obtain ⟨ad164, e164, hx164_0⟩ := Kd.at_int (Kd.R_reads' HO_4.out).2.2 x14_2 p164 q164
                                cases e164
                                replace p164 := eq_true p164
                                replace q164 := eq_true q164
                                refine start_ (n := 18) (S := fun w' => w'.cell? ⟨gb158, 0, none⟩ = some (.bool true) ∧ w'.cell? ⟨gb158, 1, none⟩ = some (.int .u64 t162) ∧ w'.cell? ⟨gb158, 2, none⟩ = some (.int .i64 t163) ∧ w'.cell? (ad164.add (x14_2).toNat) = some (.int .u64 (rd x4_1 x14_2))) (ds := []) #[false, false, false, false, false, false, false, false, false, false, false, false, false, false, false, false, false, false] (by kernel_rfl) rfl rfl ⟨(blk_cell BK158.out 0).trans rfl, (blk_cell BK158.out 1).trans rfl, (blk_cell BK158.out 2).trans rfl, hx164_0⟩ (fun hHeld => ?_); refine with_tabW laws_FnBits.tab39 laws_FnBits.bits39 (fun HT_ HW_ => ?_)
                                generalize w71.drew = w72 at HO_4 HO_5 HO_124000 BK123 BK158 HB hx164_0 hHeld ⊢
                                refine pure_ (i := 0) (N := some 139) (v := ?_) (a' := ?_) #[true, false, false, false, false, false, false, false, false, false, false, false, false, false, false, false, false, false] rfl rfl (any_of HT_.out (by kernel_rfl)) (fun _ _ _ h => h) (Or.inl ⟨by rfl, ?_⟩) ?_ ?_
                                rotate_left
                                · intro w'
                                  go_simp
                                  with_reducible rfl
                                rotate_left
                                · simp only [Act.put, List.setIfInBounds_toArray, List.set_cons_zero, List.set_cons_succ, i64_w, i32_w]
                                  rfl
                                refine take_ (i := 1) (N := some 140) (v := ?_) (a' := ?_) #[true, true, false, false, false, false, false, false, false, false, false, false, false, false, false, false, false, false] rfl rfl (take_ofW HT_.out HW_.out (by kernel_rfl)) (fun _ _ _ h => h) (Or.inl ⟨by rfl, ?_⟩) hHeld ?_ ?_
                                rotate_left
                                · rintro w' ⟨s0, s1, s2, s3⟩
                                  go_simp
                                  with_reducible rfl
                                rotate_left
                                · simp only [Act.put, List.setIfInBounds_toArray, List.set_cons_zero, List.set_cons_succ, i64_w, i32_w]
                                  rfl
                                refine pure_ (i := 2) (N := some 141) (v := ?_) (a' := ?_) #[true, true, true, false, false, false, false, false, false, false, false, false, false, false, false, false, false, false] rfl rfl (any_of HT_.out (by kernel_rfl)) (fun _ _ _ h => h) (Or.inl ⟨by rfl, ?_⟩) ?_ ?_
                                rotate_left
                                · intro w'
                                  go_simp
                                  with_reducible rfl
                                rotate_left
                                · simp only [Act.put, List.setIfInBounds_toArray, List.set_cons_zero, List.set_cons_succ, i64_w, i32_w]
                                  rfl
                                refine pure_ (i := 3) (N := some 142) (v := ?_) (a' := ?_) #[true, true, true, true, false, false, false, false, false, false, false, false, false, false, false, false, false, false] rfl rfl (any_of HT_.out (by kernel_rfl)) (fun _ _ _ h => h) (Or.inl ⟨by rfl, ?_⟩) ?_ ?_
                                rotate_left
                                · intro w'
                                  go_simp
                                  with_reducible rfl
                                rotate_left
                                · simp only [Act.put, List.setIfInBounds_toArray, List.set_cons_zero, List.set_cons_succ, i64_w, i32_w]
                                  rfl
                                refine pure_ (i := 4) (N := some 143) (v := ?_) (a' := ?_) #[true, true, true, true, true, false, false, false, false, false, false, false, false, false, false, false, false, false] rfl rfl (any_of HT_.out (by kernel_rfl)) (fun _ _ _ h => h) (Or.inl ⟨by rfl, ?_⟩) ?_ ?_
                                rotate_left
                                · intro w'
                                  go_simp
                                  with_reducible rfl
                                rotate_left
                                · simp only [Act.put, List.setIfInBounds_toArray, List.set_cons_zero, List.set_cons_succ, i64_w, i32_w]
                                  rfl
                                refine pure_ (i := 6) (N := some 145) (v := ?_) (a' := ?_) #[true, true, true, true, true, false, true, false, false, false, false, false, false, false, false, false, false, false] rfl rfl (any_of HT_.out (by kernel_rfl)) (fun _ _ _ h => h) (Or.inl ⟨by rfl, ?_⟩) ?_ ?_
                                rotate_left
                                · intro w'
                                  go_simp
                                  with_reducible rfl
                                rotate_left
                                · simp only [Act.put, List.setIfInBounds_toArray, List.set_cons_zero, List.set_cons_succ, i64_w, i32_w]
                                  rfl
                                refine pure_ (i := 7) (N := some 146) (v := ?_) (a' := ?_) #[true, true, true, true, true, false, true, true, false, false, false, false, false, false, false, false, false, false] rfl rfl (any_of HT_.out (by kernel_rfl)) (fun _ _ _ h => h) (Or.inl ⟨by rfl, ?_⟩) ?_ ?_
                                rotate_left
                                · intro w'
                                  go_simp
                                  with_reducible rfl
                                rotate_left
                                · simp only [Act.put, List.setIfInBounds_toArray, List.set_cons_zero, List.set_cons_succ, i64_w, i32_w]
                                  rfl
                                refine pure_ (i := 8) (N := some 147) (v := ?_) (a' := ?_) #[true, true, true, true, true, false, true, true, true, false, false, false, false, false, false, false, false, false] rfl rfl (any_of HT_.out (by kernel_rfl)) (fun _ _ _ h => h) (Or.inl ⟨by rfl, ?_⟩) ?_ ?_
                                rotate_left
                                · intro w'
                                  go_simp
                                  with_reducible rfl
                                rotate_left
                                · simp only [Act.put, List.setIfInBounds_toArray, List.set_cons_zero, List.set_cons_succ, i64_w, i32_w]
                                  rfl
                                refine take_ (i := 5) (N := some 144) (v := ?_) (a' := ?_) #[true, true, true, true, true, true, true, true, true, false, false, false, false, false, false, false, false, false] rfl rfl (take_ofW HT_.out HW_.out (by kernel_rfl)) (fun _ _ _ h => h) (Or.inl ⟨by rfl, ?_⟩) hHeld ?_ ?_
                                rotate_left
                                · rintro w' ⟨s0, s1, s2, s3⟩
                                  go_simp
                                  with_reducible rfl
                                rotate_left
                                · simp only [Act.put, List.setIfInBounds_toArray, List.set_cons_zero, List.set_cons_succ, i64_w, i32_w]
                                  rfl
                                refine take_ (i := 9) (N := some 148) (v := ?_) (a' := ?_) #[true, true, true, true, true, true, true, true, true, true, false, false, false, false, false, false, false, false] rfl rfl (take_ofW HT_.out HW_.out (by kernel_rfl)) (fun _ _ _ h => h) (Or.inl ⟨by rfl, ?_⟩) hHeld ?_ ?_
                                rotate_left
                                · rintro w' ⟨s0, s1, s2, s3⟩
                                  go_simp
                                  with_reducible rfl
                                rotate_left
                                · simp only [Act.put, List.setIfInBounds_toArray, List.set_cons_zero, List.set_cons_succ, i64_w, i32_w]
                                  rfl
                                refine pure_ (i := 10) (N := some 149) (v := ?_) (a' := ?_) #[true, true, true, true, true, true, true, true, true, true, true, false, false, false, false, false, false, false] rfl rfl (any_of HT_.out (by kernel_rfl)) (fun _ _ _ h => h) (Or.inl ⟨by rfl, ?_⟩) ?_ ?_
                                rotate_left
                                · intro w'
                                  go_simp
                                  with_reducible rfl
                                rotate_left
                                · simp only [Act.put, List.setIfInBounds_toArray, List.set_cons_zero, List.set_cons_succ, i64_w, i32_w]
                                  rfl
                                refine pure_ (i := 11) (N := some 150) (v := ?_) (a' := ?_) #[true, true, true, true, true, true, true, true, true, true, true, true, false, false, false, false, false, false] rfl rfl (any_of HT_.out (by kernel_rfl)) (fun _ _ _ h => h) (Or.inl ⟨by rfl, ?_⟩) ?_ ?_
                                rotate_left
                                · intro w'
                                  go_simp
                                  with_reducible rfl
                                rotate_left
                                · simp only [Act.put, List.setIfInBounds_toArray, List.set_cons_zero, List.set_cons_succ, i64_w, i32_w]
                                  rfl
                                refine pure_ (i := 12) (N := some 151) (v := ?_) (a' := ?_) #[true, true, true, true, true, true, true, true, true, true, true, true, true, false, false, false, false, false] rfl rfl (any_of HT_.out (by kernel_rfl)) (fun _ _ _ h => h) (Or.inl ⟨by rfl, ?_⟩) ?_ ?_
                                rotate_left
                                · intro w'
                                  go_simp
                                  with_reducible rfl
                                rotate_left
                                · simp only [Act.put, List.setIfInBounds_toArray, List.set_cons_zero, List.set_cons_succ, i64_w, i32_w]
                                  rfl
                                refine pure_ (i := 13) (N := some 152) (v := ?_) (a' := ?_) #[true, true, true, true, true, true, true, true, true, true, true, true, true, true, false, false, false, false] rfl rfl (any_of HT_.out (by kernel_rfl)) (fun _ _ _ h => h) (Or.inl ⟨by rfl, ?_⟩) ?_ ?_
                                rotate_left
                                · intro w'
                                  go_simp
                                  with_reducible rfl
                                rotate_left
                                · simp only [Act.put, List.setIfInBounds_toArray, List.set_cons_zero, List.set_cons_succ, i64_w, i32_w]
                                  rfl
                                refine pure_ (i := 15) (N := some 154) (v := ?_) (a' := ?_) #[true, true, true, true, true, true, true, true, true, true, true, true, true, true, false, true, false, false] rfl rfl (any_of HT_.out (by kernel_rfl)) (fun _ _ _ h => h) (Or.inl ⟨by rfl, ?_⟩) ?_ ?_
                                rotate_left
                                · intro w'
                                  go_simp
                                  with_reducible rfl
                                rotate_left
                                · simp only [Act.put, List.setIfInBounds_toArray, List.set_cons_zero, List.set_cons_succ, i64_w, i32_w]
                                  rfl
                                refine take_ (i := 14) (N := some 153) (v := ?_) (a' := ?_) #[true, true, true, true, true, true, true, true, true, true, true, true, true, true, true, true, false, false] rfl rfl (take_ofW HT_.out HW_.out (by kernel_rfl)) (fun _ _ _ h => h) (Or.inl ⟨by rfl, ?_⟩) hHeld ?_ ?_
                                rotate_left
                                · rintro w' ⟨s0, s1, s2, s3⟩
                                  go_simp
                                  with_reducible rfl
                                rotate_left
                                · simp only [Act.put, List.setIfInBounds_toArray, List.set_cons_zero, List.set_cons_succ, i64_w, i32_w]
                                  rfl
                                refine pure_ (i := 16) (N := some 155) (v := ?_) (a' := ?_) #[true, true, true, true, true, true, true, true, true, true, true, true, true, true, true, true, true, false] rfl rfl (any_of HT_.out (by kernel_rfl)) (fun _ _ _ h => h) (Or.inl ⟨by rfl, ?_⟩) ?_ ?_
                                rotate_left
                                · intro w'
                                  go_simp
                                  with_reducible rfl
                                rotate_left
                                · simp only [Act.put, List.setIfInBounds_toArray, List.set_cons_zero, List.set_cons_succ, i64_w, i32_w]
                                  rfl
                                refine pure_ (i := 17) (N := some 156) (v := ?_) (a' := ?_) #[true, true, true, true, true, true, true, true, true, true, true, true, true, true, true, true, true, true] rfl rfl (any_of HT_.out (by kernel_rfl)) (fun _ _ _ h => h) (Or.inl ⟨by rfl, ?_⟩) ?_ ?_
                                rotate_left
                                · intro w'
                                  go_simp
                                  with_reducible rfl
                                rotate_left
                                · simp only [Act.put, List.setIfInBounds_toArray, List.set_cons_zero, List.set_cons_succ, i64_w, i32_w]
                                  rfl
                                refine done_ (done_of HT_.out (by kernel_rfl)) ?_
                                have hcz74_0 : w72.cell? ⟨gb158, 0, none⟩ = some (.bool true) := (blk_cell BK158.out 0).trans rfl
                                have hcz74_1 : w72.cell? ⟨gb158, 1, none⟩ = some (.int .u64 t162) := (blk_cell BK158.out 1).trans rfl
                                have hcz74_2 : w72.cell? ⟨gb158, 2, none⟩ = some (.int .i64 t163) := (blk_cell BK158.out 2).trans rfl
                                have hfz74_0 := blk_frozen BK158.out 0
                                have hfz74_1 := blk_frozen BK158.out 1
                                have hfz74_2 := blk_frozen BK158.out 2
                                try go_wp2
                                go_roundg k2
                                case measure => have := HK1.out; have := HK2.out; omega
                                case rel => exact ⟨(t163), (wrap64 (x14_2 + 1)), (by first | rfl | (simp; done) | (simp [*]; done)), (by first | rfl | (simp; done) | (simp [*]; done)), H', ⟨by have := HK1.out; have := HK2.out; omega⟩, ⟨by (with_reducible repeat (first | apply Kd.R_alloc | apply Kd.R_drewN | apply Kd.R_drew)); exact HO_4.out⟩, ⟨by (with_reducible repeat (first | apply Kd.R_alloc | apply Kd.R_drewN | apply Kd.R_drew)); exact HO_5.out⟩, ⟨by (with_reducible repeat (first | apply Kd.R_alloc | apply Kd.R_drewN | apply Kd.R_drew)); exact HO_124000.out⟩, ⟨by (with_reducible repeat (first | refine blk_drewN ?_ _ | refine blk_drew ?_ | refine blk_alloc ?_ _)); exact BK123.out⟩, ⟨by repeat (first | (with_reducible first | exact HB.out | apply below_alloc | apply pw_below_drewN | apply below_drew1 | refine below_set ?_ GE123.out | refine below_set ?_ GE158.out) | exact HB.out)⟩⟩
                            · rw [if_neg c59] at H
                              have c59b0 : (t162 == (rd x4_1 x14_2)) = false := beq_eq_false_iff_ne.mpr c59
                              have c59b1 : (t162 != (rd x4_1 x14_2)) = true := bne_iff_ne.mpr c59
                              obtain rfl := Option.some.inj H
                              exact absurd hlaw.out (by simp)
                          · rw [if_neg c58] at H
                            exact absurd H (by simp)
                        · replace c57 := Bool.eq_false_iff.mpr c57
                          subst c57
                          have H1 : (some false) = some r := by rw [if_neg (show ¬ (false = true) by decide)] at H; exact H
                          clear H
                          have H := H1
                          clear H1
                          obtain rfl := Option.some.inj H
                          exact absurd hlaw.out (by simp)
                      · rw [if_neg c55] at H
                        have c55b0 : decide ((rd x5_1 x14_2) < 0) = false := decide_eq_false c55
                        clear c55
                        replace H := Option.bind_eq_some_iff.mp H
                        obtain ⟨⟨t166, t167, t168⟩, A750, H⟩ := H
                        replace H : (if t166 = true then (if x14_2 < (x4_1.length : Int) then (if t167 = (rd x4_1 x14_2) then (if t168 ≤ x13_2 then (some false) else (laws_FnBits.l2 k2 x4_1 x5_1 (wrap64 (1 + t130)) t168 (wrap64 (x14_2 + 1)) x124000_1 x124001_1)) else (some false)) else (none)) else (some false)) = some r := H
                        have A75 := Aside0.mk A750
                        clear A750
                        by_cases c76 : t166 = true
                        · subst c76
                          have H1 : (if x14_2 < (x4_1.length : Int) then (if t167 = (rd x4_1 x14_2) then (if t168 ≤ x13_2 then (some false) else (laws_FnBits.l2 k2 x4_1 x5_1 (wrap64 (1 + t130)) t168 (wrap64 (x14_2 + 1)) x124000_1 x124001_1)) else (some false)) else (none)) = some r := by rw [if_pos rfl] at H; exact H
                          clear H
                          have H := H1
                          clear H1
                          by_cases c77 : x14_2 < (x4_1.length : Int)
                          · rw [if_pos c77] at H
                            have c77b0 : decide (x14_2 < (x4_1.length : Int)) = true := decide_eq_true c77
                            clear c77
                            by_cases c78 : t167 = (rd x4_1 x14_2)
                            · rw [if_pos c78] at H
                              have c78b0 : (t167 == (rd x4_1 x14_2)) = true := beq_iff_eq.mpr c78
                              have c78b1 : (t167 != (rd x4_1 x14_2)) = false := bne_eq_false_iff_eq.mpr c78
                              clear c78
                              by_cases c79 : t168 ≤ x13_2
                              · rw [if_pos c79] at H
                                have c79b0 : decide (t168 ≤ x13_2) = true := decide_eq_true c79
                                clear c79
                                obtain rfl := Option.some.inj H
                                exact absurd hlaw.out (by simp)
                              · rw [if_neg c79] at H
                                have c79b0 : decide (t168 ≤ x13_2) = false := decide_eq_false c79
                                clear c79
                                have H' := Aside0.mk H
                                clear H
                                try go_wp2_with (first | ((with_reducible refine gate_dst (N := 15) rfl ?_); refine box_event ?hg (N := 15) ?hd (cs := #[.bool false, .int .u64 0, .int .i64 0]) (t := 62) ?hr ?_; (case hd => rfl); (case hg => rfl); (case hr => first | (go_simp; done) | (go_simp; rfl)); intro gb158 hg w80 hbox hb; have n0_ := Aside0.mk (Kd.R_below (by (with_reducible repeat (first | apply Kd.R_alloc | apply Kd.R_drewN | apply Kd.R_drew)); exact HO_4.out) hb); have n1_ := Aside0.mk (Kd.R_below (by (with_reducible repeat (first | apply Kd.R_alloc | apply Kd.R_drewN | apply Kd.R_drew)); exact HO_5.out) hb); have n2_ := Aside0.mk (Kd.R_below (by (with_reducible repeat (first | apply Kd.R_alloc | apply Kd.R_drewN | apply Kd.R_drew)); exact HO_124000.out) hb); have n3_ := Aside0.mk (blk_below (g := gb123) (o := .cells #[.slice Ao51 x124000_1.length co51, .int .i64 x124001_1] 64 (0, 0)) (by (with_reducible repeat (first | refine blk_drewN ?_ _ | refine blk_drew ?_ | refine blk_alloc ?_ _)); exact BK123.out) hb); have n4_ := Aside0.mk (below_step (by repeat (first | (with_reducible first | exact HB.out | apply below_alloc | apply pw_below_drewN | apply below_drew1 | refine below_set ?_ GE123.out) | exact HB.out)) hb); have n5_ := Aside0.mk (hbox); have n6_ := Aside0.mk ((by rw [hg]; exact (below_size (by repeat (first | (with_reducible first | exact HB.out | apply below_alloc | apply pw_below_drewN | apply below_drew1 | refine below_set ?_ GE123.out) | exact HB.out))) : w.heap.size ≤ gb158)); have n7_ := Aside0.mk ((by rw [hg]; exact (below_size (by repeat (first | (with_reducible first | exact HB.out | apply below_alloc | apply pw_below_drewN | apply below_drew1 | refine below_set ?_ GE123.out) | exact HB.out))) : w.heap.size ≤ gb158)); have n8_ := Aside0.mk ((by rw [hg]; exact Nat.ne_of_lt (blk_lt (g := gb123) (o := .cells #[.slice Ao51 x124000_1.length co51, .int .i64 x124001_1] 64 (0, 0)) (by (with_reducible repeat (first | refine blk_drewN ?_ _ | refine blk_drew ?_ | refine blk_alloc ?_ _)); exact BK123.out)) : gb123 ≠ gb158)); have n9_ := Aside0.mk ((by rw [hg]; exact Nat.ne_of_gt (blk_lt (g := gb123) (o := .cells #[.slice Ao51 x124000_1.length co51, .int .i64 x124001_1] 64 (0, 0)) (by (with_reducible repeat (first | refine blk_drewN ?_ _ | refine blk_drew ?_ | refine blk_alloc ?_ _)); exact BK123.out)) : gb158 ≠ gb123)); clear HO_4; clear HO_5; clear HO_124000; clear BK123; clear HB; have HO_4 := n0_; have HO_5 := n1_; have HO_124000 := n2_; have BK123 := n3_; have HB := n4_; have BK158 := n5_; have GW158 := n6_; have GE158 := n7_; have NB123_158 := n8_; have NB158_123 := n9_; clear n0_ n1_ n2_ n3_ n4_ n5_ n6_ n7_ n8_ n9_; clear hb hbox hg; have hnb81 := NB158_123.out; have hnc81 := NB123_158.out; have hcz82_0 : w80.cell? ⟨gb158, 0, none⟩ = some (.bool false) := (blk_cell BK158.out 0).trans rfl; have hcz82_1 : w80.cell? ⟨gb158, 1, none⟩ = some (.int .u64 0) := (blk_cell BK158.out 1).trans rfl; have hcz82_2 : w80.cell? ⟨gb158, 2, none⟩ = some (.int .i64 0) := (blk_cell BK158.out 2).trans rfl; have hfz82_0 := blk_frozen BK158.out 0; have hfz82_1 := blk_frozen BK158.out 1; have hfz82_2 := blk_frozen BK158.out 2; obtain ⟨Ao83, co83, eo83⟩ := Kd.R_slice HO_5.out; subst eo83; have p159 : 0 ≤ (x14_2 : Int) := of_decide_eq_true (by first | (with_reducible assumption) | assumption); have q159 : x14_2 < (x5_1.length : Int) := of_decide_eq_true (by first | (with_reducible assumption) | assumption); obtain ⟨ad159, e159, hx159_0⟩ := Kd.at_int (Kd.R_reads' HO_5.out).2.2 x14_2 p159 q159; cases e159; have hn159_0 : ad159.block ≠ gb158 := Kd.own_blk (Kd.R_ne HO_5.out BK158.out (by decide)); have hn159_1 : ad159.block ≠ gb158 := Kd.own_blk (Kd.R_ne HO_5.out BK158.out (by decide)); have hn159_2 : ad159.block ≠ gb158 := Kd.own_blk (Kd.R_ne HO_5.out BK158.out (by decide)); replace hx159_0 := (cell_far (p := ⟨gb158, 0, none⟩) (by first | (rw [add_block]; exact hn159_0) | (show (Addr.add _ _).block ≠ _; rw [add_block]; exact hn159_0) | exact hn159_0) (.bool false)).trans hx159_0; replace hx159_0 := (cell_far (p := ⟨gb158, 1, none⟩) (by first | (rw [add_block]; exact hn159_1) | (show (Addr.add _ _).block ≠ _; rw [add_block]; exact hn159_1) | exact hn159_1) (.int .u64 0)).trans hx159_0; replace hx159_0 := (cell_far (p := ⟨gb158, 2, none⟩) (by first | (rw [add_block]; exact hn159_2) | (show (Addr.add _ _).block ≠ _; rw [add_block]; exact hn159_2) | exact hn159_2) (.int .i64 0)).trans hx159_0; clear hn159_0; clear hn159_1; clear hn159_2; replace p159 := eq_true p159; replace q159 := eq_true q159))
                                have n0_ : Aside0 (Kd.R (Kd.int .u64) 38 (((w80.setCell ⟨gb158, 0, none⟩ (.bool false)).setCell ⟨gb158, 1, none⟩ (.int .u64 0)).setCell ⟨gb158, 2, none⟩ (.int .i64 0)) w.heap.size (fun _ => True) u4 x4_1) := ⟨by (with_reducible repeat (first | apply Kd.R_alloc | apply Kd.R_drewN | apply Kd.R_drew)); exact Kd.R_mono (Kd.R_far (p := ⟨gb158, 2, none⟩) (Kd.R_far (p := ⟨gb158, 1, none⟩) (Kd.R_far (p := ⟨gb158, 0, none⟩) (Kd.R_types HO_4.out BK158.out (by decide)) (fun _ hk => hk.2) (.bool false)) (fun _ hk => hk.2) (.int .u64 0)) (fun _ hk => hk.2) (.int .i64 0)) (fun _ hk => trivial)⟩
                                have n1_ : Aside0 (Kd.R (Kd.int .i64) 2 (((w80.setCell ⟨gb158, 0, none⟩ (.bool false)).setCell ⟨gb158, 1, none⟩ (.int .u64 0)).setCell ⟨gb158, 2, none⟩ (.int .i64 0)) w.heap.size (fun _ => True) (.slice (some ad159) x5_1.length co83) x5_1) := ⟨by (with_reducible repeat (first | apply Kd.R_alloc | apply Kd.R_drewN | apply Kd.R_drew)); exact Kd.R_mono (Kd.R_far (p := ⟨gb158, 2, none⟩) (Kd.R_far (p := ⟨gb158, 1, none⟩) (Kd.R_far (p := ⟨gb158, 0, none⟩) (Kd.R_types HO_5.out BK158.out (by decide)) (fun _ hk => hk.2) (.bool false)) (fun _ hk => hk.2) (.int .u64 0)) (fun _ hk => hk.2) (.int .i64 0)) (fun _ hk => trivial)⟩
                                have n2_ : Aside0 (Kd.R (Kd.int .u8) 5 (((w80.setCell ⟨gb158, 0, none⟩ (.bool false)).setCell ⟨gb158, 1, none⟩ (.int .u64 0)).setCell ⟨gb158, 2, none⟩ (.int .i64 0)) w.heap.size (fun _ => True) (.slice Ao51 x124000_1.length co51) x124000_1) := ⟨by (with_reducible repeat (first | apply Kd.R_alloc | apply Kd.R_drewN | apply Kd.R_drew)); exact Kd.R_mono (Kd.R_far (p := ⟨gb158, 2, none⟩) (Kd.R_far (p := ⟨gb158, 1, none⟩) (Kd.R_far (p := ⟨gb158, 0, none⟩) (Kd.R_types HO_124000.out BK158.out (by decide)) (fun _ hk => hk.2) (.bool false)) (fun _ hk => hk.2) (.int .u64 0)) (fun _ hk => hk.2) (.int .i64 0)) (fun _ hk => trivial)⟩
                                have n3_ : Aside0 ((((w80.setCell ⟨gb158, 0, none⟩ (.bool false)).setCell ⟨gb158, 1, none⟩ (.int .u64 0)).setCell ⟨gb158, 2, none⟩ (.int .i64 0)).heap[gb123]? = some (.cells #[.slice Ao51 x124000_1.length co51, .int .i64 x124001_1] 64 (0, 0))) := ⟨by (with_reducible repeat (first | refine blk_drewN ?_ _ | refine blk_drew ?_ | refine blk_alloc ?_ _)); refine blk_far ?_ NB123_158.out _; (with_reducible repeat (first | refine blk_drewN ?_ _ | refine blk_drew ?_ | refine blk_alloc ?_ _)); refine blk_far ?_ NB123_158.out _; (with_reducible repeat (first | refine blk_drewN ?_ _ | refine blk_drew ?_ | refine blk_alloc ?_ _)); refine blk_far ?_ NB123_158.out _; (with_reducible repeat (first | refine blk_drewN ?_ _ | refine blk_drew ?_ | refine blk_alloc ?_ _)); exact BK123.out⟩
                                have n4_ : Aside0 ((((w80.setCell ⟨gb158, 0, none⟩ (.bool false)).setCell ⟨gb158, 1, none⟩ (.int .u64 0)).setCell ⟨gb158, 2, none⟩ (.int .i64 0)).heap[gb158]? = some (.cells #[.bool false, .int .u64 0, .int .i64 0] 62 (0, 0))) := ⟨by (with_reducible repeat (first | refine blk_drewN ?_ _ | refine blk_drew ?_ | refine blk_alloc ?_ _)); refine blk_put (cs := #[.bool false, .int .u64 0, .int .i64 0]) ?_ 2 _ rfl; (with_reducible repeat (first | refine blk_drewN ?_ _ | refine blk_drew ?_ | refine blk_alloc ?_ _)); refine blk_put (cs := #[.bool false, .int .u64 0, .int .i64 0]) ?_ 1 _ rfl; (with_reducible repeat (first | refine blk_drewN ?_ _ | refine blk_drew ?_ | refine blk_alloc ?_ _)); refine blk_put (cs := #[.bool false, .int .u64 0, .int .i64 0]) ?_ 0 _ rfl; (with_reducible repeat (first | refine blk_drewN ?_ _ | refine blk_drew ?_ | refine blk_alloc ?_ _)); exact BK158.out⟩
                                have n5_ : Aside0 (Below w.heap.size w (((w80.setCell ⟨gb158, 0, none⟩ (.bool false)).setCell ⟨gb158, 1, none⟩ (.int .u64 0)).setCell ⟨gb158, 2, none⟩ (.int .i64 0))) := ⟨by repeat (first | (with_reducible first | exact HB.out | apply below_alloc | apply pw_below_drewN | apply below_drew1 | refine below_set ?_ GE123.out | refine below_set ?_ GE158.out) | exact HB.out)⟩
                                (try clear HO_4)
                                (try clear HO_5)
                                (try clear HO_124000)
                                (try clear BK123)
                                (try clear BK158)
                                (try clear HB)
                                generalize (((w80.setCell ⟨gb158, 0, none⟩ (.bool false)).setCell ⟨gb158, 1, none⟩ (.int .u64 0)).setCell ⟨gb158, 2, none⟩ (.int .i64 0)) = w84 at n0_ n1_ n2_ n3_ n4_ n5_ ⊢
                                have HO_4 := n0_
                                have HO_5 := n1_
                                have HO_124000 := n2_
                                have BK123 := n3_
                                have BK158 := n4_
                                have HB := n5_
                                clear n0_ n1_ n2_ n3_ n4_ n5_
                                have n0_ := Aside0.mk (Kd.R_drew HO_4.out)
                                have n1_ := Aside0.mk (Kd.R_drew HO_5.out)
                                have n2_ := Aside0.mk (Kd.R_drew HO_124000.out)
                                have n3_ := Aside0.mk (blk_drew BK123.out)
                                have n4_ := Aside0.mk (blk_drew BK158.out)
                                have n5_ := Aside0.mk (below_drew1 HB.out)
                                clear HO_4
                                clear HO_5
                                clear HO_124000
                                clear BK123
                                clear BK158
                                clear HB
                                have HO_4 := n0_
                                have HO_5 := n1_
                                have HO_124000 := n2_
                                have BK123 := n3_
                                have BK158 := n4_
                                have HB := n5_
                                clear n0_ n1_ n2_ n3_ n4_ n5_
                                have p165 : 0 ≤ (x14_2 : Int) := of_decide_eq_true (by first | (with_reducible assumption) | assumption)
                                have q165 : x14_2 < (x5_1.length : Int) := of_decide_eq_true (by first | (with_reducible assumption) | assumption)
                                obtain ⟨ad165, e165, hx165_0⟩ := Kd.at_int (Kd.R_reads' HO_5.out).2.2 x14_2 p165 q165
                                obtain rfl : ad159 = ad165 := (by injection e165)
                                replace p165 := eq_true p165
                                replace q165 := eq_true q165
                                refine start_ (n := 8) (S := fun w' => w'.cell? ⟨gb123, 0, none⟩ = some (.slice Ao51 x124000_1.length co51) ∧ w'.cell? ⟨gb123, 1, none⟩ = some (.int .i64 x124001_1) ∧ w'.cell? (ad159.add (x14_2).toNat) = some (.int .i64 (rd x5_1 x14_2))) (ds := []) #[false, false, false, false, false, false, false, false] (by kernel_rfl) rfl rfl ⟨(blk_cell BK123.out 0).trans rfl, (blk_cell BK123.out 1).trans rfl, hx165_0⟩ (fun hHeld => ?_); refine with_tabW laws_FnBits.tab38 laws_FnBits.bits38 (fun HT_ HW_ => ?_)
                                generalize w84.drew = w85 at HO_4 HO_5 HO_124000 BK123 BK158 HB hx165_0 hHeld ⊢
                                refine pure_ (i := 1) (N := some 133) (v := ?_) (a' := ?_) #[false, true, false, false, false, false, false, false] rfl rfl (any_of HT_.out (by kernel_rfl)) (fun _ _ _ h => h) (Or.inl ⟨by rfl, ?_⟩) ?_ ?_
                                rotate_left
                                · intro w'
                                  go_simp
                                  with_reducible rfl
                                rotate_left
                                · simp only [Act.put, List.setIfInBounds_toArray, List.set_cons_zero, List.set_cons_succ, i64_w, i32_w]
                                  rfl
                                refine pure_ (i := 2) (N := some 134) (v := ?_) (a' := ?_) #[false, true, true, false, false, false, false, false] rfl rfl (any_of HT_.out (by kernel_rfl)) (fun _ _ _ h => h) (Or.inl ⟨by rfl, ?_⟩) ?_ ?_
                                rotate_left
                                · intro w'
                                  go_simp
                                  with_reducible rfl
                                rotate_left
                                · simp only [Act.put, List.setIfInBounds_toArray, List.set_cons_zero, List.set_cons_succ, i64_w, i32_w]
                                  rfl
                                refine pure_ (i := 3) (N := some 135) (v := ?_) (a' := ?_) #[false, true, true, true, false, false, false, false] rfl rfl (any_of HT_.out (by kernel_rfl)) (fun _ _ _ h => h) (Or.inl ⟨by rfl, ?_⟩) ?_ ?_
                                rotate_left
                                · intro w'
                                  go_simp
                                  with_reducible rfl
                                rotate_left
                                · simp only [Act.put, List.setIfInBounds_toArray, List.set_cons_zero, List.set_cons_succ, i64_w, i32_w]
                                  rfl
                                refine pure_ (i := 4) (N := some 136) (v := ?_) (a' := ?_) #[false, true, true, true, true, false, false, false] rfl rfl (any_of HT_.out (by kernel_rfl)) (fun _ _ _ h => h) (Or.inl ⟨by rfl, ?_⟩) ?_ ?_
                                rotate_left
                                · intro w'
                                  go_simp
                                  with_reducible rfl
                                rotate_left
                                · simp only [Act.put, List.setIfInBounds_toArray, List.set_cons_zero, List.set_cons_succ, i64_w, i32_w]
                                  rfl
                                refine take_ (i := 0) (N := some 132) (v := ?_) (a' := ?_) #[true, true, true, true, true, false, false, false] rfl rfl (take_ofW HT_.out HW_.out (by kernel_rfl)) (fun _ _ _ h => h) (Or.inl ⟨by rfl, ?_⟩) hHeld ?_ ?_
                                rotate_left
                                · rintro w' ⟨s0, s1, s2⟩
                                  go_simp
                                  with_reducible rfl
                                rotate_left
                                · simp only [Act.put, List.setIfInBounds_toArray, List.set_cons_zero, List.set_cons_succ, i64_w, i32_w]
                                  rfl
                                refine take_ (i := 5) (N := some 137) (v := ?_) (a' := ?_) #[true, true, true, true, true, true, false, false] rfl rfl (take_ofW HT_.out HW_.out (by kernel_rfl)) (fun _ _ _ h => h) (Or.inl ⟨by rfl, ?_⟩) hHeld ?_ ?_
                                rotate_left
                                · rintro w' ⟨s0, s1, s2⟩
                                  go_simp
                                  with_reducible rfl
                                rotate_left
                                · simp only [Act.put, List.setIfInBounds_toArray, List.set_cons_zero, List.set_cons_succ, i64_w, i32_w]
                                  rfl
                                refine one_ (i := 6) (N := some 138) #[true, true, true, true, true, true, true, false] rfl rfl (one_of HT_.out (by kernel_rfl)) (by decide) (fun K hK => ?_)
                                refine goes_ Try.func60 (by kernel_rfl) rfl #[.agg #[.slice Ao51 x124000_1.length co51, .int .i64 x124001_1], .int .i64 x13_2, .int .i64 (rd x5_1 x14_2)] (by rfl) rfl rfl (by (try simp only [List.map_toArray, List.map_cons, List.map_nil]); first | done | rfl | (simp only [List.length_drop, List.length_take]; rfl)) ?_
                                with_reducible refine (impl_GetVar.calls k2 _ _ x124000_1 x124001_1 x13_2 (rd x5_1 x14_2) true t167 t168 _ ?side1 ?side2 A75.out).mono ?_
                                (case side1 => repeat (first | exact (Kd.R_reads' HO_124000.out).2.2 | (with_reducible refine Kd.C_alloc ?_ _) | (with_reducible refine Kd.C_drewN ?_ _) | (with_reducible refine Kd.C_drew ?_)))
                                (case side2 => exact (Kd.R_reads' HO_124000.out).2.1)
                                rintro e w86 ⟨rfl, hb⟩
                                have HS2_ := (hb.cell (World.block_lt_of_cell? _ _ (hHeld.2.2))).trans (hHeld.2.2)
                                refine ⟨_, rfl, ?_⟩
                                have n0_ := Aside0.mk (Kd.R_below (by (with_reducible repeat (first | apply Kd.R_alloc | apply Kd.R_drewN | apply Kd.R_drew)); exact HO_4.out) hb)
                                have n1_ := Aside0.mk (Kd.R_below (by (with_reducible repeat (first | apply Kd.R_alloc | apply Kd.R_drewN | apply Kd.R_drew)); exact HO_5.out) hb)
                                have n2_ := Aside0.mk (Kd.R_below (by (with_reducible repeat (first | apply Kd.R_alloc | apply Kd.R_drewN | apply Kd.R_drew)); exact HO_124000.out) hb)
                                have n3_ := Aside0.mk (blk_below (g := gb123) (o := .cells #[.slice Ao51 x124000_1.length co51, .int .i64 x124001_1] 64 (0, 0)) (by (with_reducible repeat (first | refine blk_drewN ?_ _ | refine blk_drew ?_ | refine blk_alloc ?_ _)); exact BK123.out) hb)
                                have n4_ := Aside0.mk (blk_below (g := gb158) (o := .cells #[.bool false, .int .u64 0, .int .i64 0] 62 (0, 0)) (by (with_reducible repeat (first | refine blk_drewN ?_ _ | refine blk_drew ?_ | refine blk_alloc ?_ _)); exact BK158.out) hb)
                                have n5_ := Aside0.mk (below_step (by repeat (first | (with_reducible first | exact HB.out | apply below_alloc | apply pw_below_drewN | apply below_drew1 | refine below_set ?_ GE123.out | refine below_set ?_ GE158.out) | exact HB.out)) hb)
                                clear HO_4
                                clear HO_5
                                clear HO_124000
                                clear BK123
                                clear BK158
                                clear HB
                                have HO_4 := n0_
                                have HO_5 := n1_
                                have HO_124000 := n2_
                                have BK123 := n3_
                                have BK158 := n4_
                                have HB := n5_
                                clear n0_ n1_ n2_ n3_ n4_ n5_
                                (try clear hb)
                                (try clear hb2)
                                (try clear hk)
                                (try clear hi)
                                refine hK.out _ _ ⟨(blk_cell BK123.out 0).trans rfl, (blk_cell BK123.out 1).trans rfl, HS2_⟩ (fun hHeld => ?_)
                                clear hK K
                                refine norm_ (a' := ?_) ?_ ?_
                                rotate_left
                                · show Act.put _ (some 138) _ = _
                                  simp only [Act.put, List.setIfInBounds_toArray, List.set_cons_zero, List.set_cons_succ, i64_w, i32_w]
                                  rfl
                                refine one_ (i := 7) (N := none) #[true, true, true, true, true, true, true, true] rfl rfl (one_of HT_.out (by kernel_rfl)) (by decide) (fun K hK => ?_)
                                have hs87 : w86.cell? ⟨gb158, 0, none⟩ = some (.bool false) := (blk_cell BK158.out 0).trans rfl
                                have hfs87 := blk_frozen BK158.out 0
                                have hns87_0 := NB123_158.out
                                have hms87_0 := NB158_123.out
                                have hs88 : w86.cell? ⟨gb158, 1, none⟩ = some (.int .u64 0) := (blk_cell BK158.out 1).trans rfl
                                have hfs88 := blk_frozen BK158.out 1
                                have hns88_0 := NB123_158.out
                                have hms88_0 := NB158_123.out
                                have hs89 : w86.cell? ⟨gb158, 2, none⟩ = some (.int .i64 0) := (blk_cell BK158.out 2).trans rfl
                                have hfs89 := blk_frozen BK158.out 2
                                have hns89_0 := NB123_158.out
                                have hms89_0 := NB158_123.out
                                refine skip_ (w1 := ?_) (by rfl) rfl ?_ ?_
                                rotate_left
                                · go_simp
                                  rfl
                                refine hK.out _ _ ⟨((cell_far (p := ⟨gb158, _, none⟩) NB123_158.out _).trans (((cell_far (p := ⟨gb158, _, none⟩) NB123_158.out _).trans (((cell_far (p := ⟨gb158, _, none⟩) NB123_158.out _).trans (hHeld.1)))))), ((cell_far (p := ⟨gb158, _, none⟩) NB123_158.out _).trans (((cell_far (p := ⟨gb158, _, none⟩) NB123_158.out _).trans (((cell_far (p := ⟨gb158, _, none⟩) NB123_158.out _).trans (hHeld.2.1)))))), ((cell_far (p := ⟨gb158, _, none⟩) (by first | exact Kd.own_blk (Kd.R_ne HO_5.out BK158.out (by decide)) | (rw [add_block]; exact Kd.own_blk (Kd.R_ne HO_5.out BK158.out (by decide))) | (show (Addr.add _ _).block ≠ _; rw [add_block]; exact Kd.own_blk (Kd.R_ne HO_5.out BK158.out (by decide))) | (dsimp only; exact Kd.own_blk (Kd.R_ne HO_5.out BK158.out (by decide)))) _).trans (((cell_far (p := ⟨gb158, _, none⟩) (by first | exact Kd.own_blk (Kd.R_ne HO_5.out BK158.out (by decide)) | (rw [add_block]; exact Kd.own_blk (Kd.R_ne HO_5.out BK158.out (by decide))) | (show (Addr.add _ _).block ≠ _; rw [add_block]; exact Kd.own_blk (Kd.R_ne HO_5.out BK158.out (by decide))) | (dsimp only; exact Kd.own_blk (Kd.R_ne HO_5.out BK158.out (by decide)))) _).trans (((cell_far (p := ⟨gb158, _, none⟩) (by first | exact Kd.own_blk (Kd.R_ne HO_5.out BK158.out (by decide)) | (rw [add_block]; exact Kd.own_blk (Kd.R_ne HO_5.out BK158.out (by decide))) | (show (Addr.add _ _).block ≠ _; rw [add_block]; exact Kd.own_blk (Kd.R_ne HO_5.out BK158.out (by decide))) | (dsimp only; exact Kd.own_blk (Kd.R_ne HO_5.out BK158.out (by decide)))) _).trans (hHeld.2.2))))))⟩ (fun hHeld => ?_)
                                clear hK K
                                refine done_ (done_of HT_.out (by kernel_rfl)) ?_
                                try go_wp2
                                have n0_ : Aside0 (Kd.R (Kd.int .u64) 38 (((w86.setCell ⟨gb158, 0, none⟩ (.bool true)).setCell ⟨gb158, 1, none⟩ (.int .u64 t167)).setCell ⟨gb158, 2, none⟩ (.int .i64 t168)) w.heap.size (fun _ => True) u4 x4_1) := ⟨by (with_reducible repeat (first | apply Kd.R_alloc | apply Kd.R_drewN | apply Kd.R_drew)); exact Kd.R_mono (Kd.R_far (p := ⟨gb158, 2, none⟩) (Kd.R_far (p := ⟨gb158, 1, none⟩) (Kd.R_far (p := ⟨gb158, 0, none⟩) (Kd.R_types HO_4.out BK158.out (by decide)) (fun _ hk => hk.2) (.bool true)) (fun _ hk => hk.2) (.int .u64 t167)) (fun _ hk => hk.2) (.int .i64 t168)) (fun _ hk => trivial)⟩
                                have n1_ : Aside0 (Kd.R (Kd.int .i64) 2 (((w86.setCell ⟨gb158, 0, none⟩ (.bool true)).setCell ⟨gb158, 1, none⟩ (.int .u64 t167)).setCell ⟨gb158, 2, none⟩ (.int .i64 t168)) w.heap.size (fun _ => True) (.slice (some ad159) x5_1.length co83) x5_1) := ⟨by (with_reducible repeat (first | apply Kd.R_alloc | apply Kd.R_drewN | apply Kd.R_drew)); exact Kd.R_mono (Kd.R_far (p := ⟨gb158, 2, none⟩) (Kd.R_far (p := ⟨gb158, 1, none⟩) (Kd.R_far (p := ⟨gb158, 0, none⟩) (Kd.R_types HO_5.out BK158.out (by decide)) (fun _ hk => hk.2) (.bool true)) (fun _ hk => hk.2) (.int .u64 t167)) (fun _ hk => hk.2) (.int .i64 t168)) (fun _ hk => trivial)⟩
                                have n2_ : Aside0 (Kd.R (Kd.int .u8) 5 (((w86.setCell ⟨gb158, 0, none⟩ (.bool true)).setCell ⟨gb158, 1, none⟩ (.int .u64 t167)).setCell ⟨gb158, 2, none⟩ (.int .i64 t168)) w.heap.size (fun _ => True) (.slice Ao51 x124000_1.length co51) x124000_1) := ⟨by (with_reducible repeat (first | apply Kd.R_alloc | apply Kd.R_drewN | apply Kd.R_drew)); exact Kd.R_mono (Kd.R_far (p := ⟨gb158, 2, none⟩) (Kd.R_far (p := ⟨gb158, 1, none⟩) (Kd.R_far (p := ⟨gb158, 0, none⟩) (Kd.R_types HO_124000.out BK158.out (by decide)) (fun _ hk => hk.2) (.bool true)) (fun _ hk => hk.2) (.int .u64 t167)) (fun _ hk => hk.2) (.int .i64 t168)) (fun _ hk => trivial)⟩
                                have n3_ : Aside0 ((((w86.setCell ⟨gb158, 0, none⟩ (.bool true)).setCell ⟨gb158, 1, none⟩ (.int .u64 t167)).setCell ⟨gb158, 2, none⟩ (.int .i64 t168)).heap[gb123]? = some (.cells #[.slice Ao51 x124000_1.length co51, .int .i64 x124001_1] 64 (0, 0))) := ⟨by (with_reducible repeat (first | refine blk_drewN ?_ _ | refine blk_drew ?_ | refine blk_alloc ?_ _)); refine blk_far ?_ NB123_158.out _; (with_reducible repeat (first | refine blk_drewN ?_ _ | refine blk_drew ?_ | refine blk_alloc ?_ _)); refine blk_far ?_ NB123_158.out _; (with_reducible repeat (first | refine blk_drewN ?_ _ | refine blk_drew ?_ | refine blk_alloc ?_ _)); refine blk_far ?_ NB123_158.out _; (with_reducible repeat (first | refine blk_drewN ?_ _ | refine blk_drew ?_ | refine blk_alloc ?_ _)); exact BK123.out⟩
                                have n4_ : Aside0 ((((w86.setCell ⟨gb158, 0, none⟩ (.bool true)).setCell ⟨gb158, 1, none⟩ (.int .u64 t167)).setCell ⟨gb158, 2, none⟩ (.int .i64 t168)).heap[gb158]? = some (.cells #[.bool true, .int .u64 t167, .int .i64 t168] 62 (0, 0))) := ⟨by (with_reducible repeat (first | refine blk_drewN ?_ _ | refine blk_drew ?_ | refine blk_alloc ?_ _)); refine blk_put (cs := #[.bool true, .int .u64 t167, .int .i64 0]) ?_ 2 _ rfl; (with_reducible repeat (first | refine blk_drewN ?_ _ | refine blk_drew ?_ | refine blk_alloc ?_ _)); refine blk_put (cs := #[.bool true, .int .u64 0, .int .i64 0]) ?_ 1 _ rfl; (with_reducible repeat (first | refine blk_drewN ?_ _ | refine blk_drew ?_ | refine blk_alloc ?_ _)); refine blk_put (cs := #[.bool false, .int .u64 0, .int .i64 0]) ?_ 0 _ rfl; (with_reducible repeat (first | refine blk_drewN ?_ _ | refine blk_drew ?_ | refine blk_alloc ?_ _)); exact BK158.out⟩
                                have n5_ : Aside0 (Below w.heap.size w (((w86.setCell ⟨gb158, 0, none⟩ (.bool true)).setCell ⟨gb158, 1, none⟩ (.int .u64 t167)).setCell ⟨gb158, 2, none⟩ (.int .i64 t168))) := ⟨by repeat (first | (with_reducible first | exact HB.out | apply below_alloc | apply pw_below_drewN | apply below_drew1 | refine below_set ?_ GE123.out | refine below_set ?_ GE158.out) | exact HB.out)⟩
                                (try clear HO_4)
                                (try clear HO_5)
                                (try clear HO_124000)
                                (try clear BK123)
                                (try clear BK158)
                                (try clear HB)
                                generalize (((w86.setCell ⟨gb158, 0, none⟩ (.bool true)).setCell ⟨gb158, 1, none⟩ (.int .u64 t167)).setCell ⟨gb158, 2, none⟩ (.int .i64 t168)) = w90 at n0_ n1_ n2_ n3_ n4_ n5_ ⊢
                                have HO_4 := n0_
                                have HO_5 := n1_
                                have HO_124000 := n2_
                                have BK123 := n3_
                                have BK158 := n4_
                                have HB := n5_
                                clear n0_ n1_ n2_ n3_ n4_ n5_
                                have n0_ := Aside0.mk (Kd.R_drew HO_4.out)
                                have n1_ := Aside0.mk (Kd.R_drew HO_5.out)
                                have n2_ := Aside0.mk (Kd.R_drew HO_124000.out)
                                have n3_ := Aside0.mk (blk_drew BK123.out)
                                have n4_ := Aside0.mk (blk_drew BK158.out)
                                have n5_ := Aside0.mk (below_drew1 HB.out)
                                clear HO_4
                                clear HO_5
                                clear HO_124000
                                clear BK123
                                clear BK158
                                clear HB
                                have HO_4 := n0_
                                have HO_5 := n1_
                                have HO_124000 := n2_
                                have BK123 := n3_
                                have BK158 := n4_
                                have HB := n5_
                                clear n0_ n1_ n2_ n3_ n4_ n5_
                                obtain ⟨Ao92, co92, eo92⟩ := Kd.R_slice HO_4.out
                                (first | subst eo92 | (injection eo92 with f1_ f2_ f3_; have f4_ := f1_.symm; have f5_ := f3_.symm; clear f1_ f2_ f3_; subst f4_; subst f5_))
                                have p169 : 0 ≤ (x14_2 : Int) := of_decide_eq_true (by first | (with_reducible assumption) | assumption)
                                have q169 : x14_2 < (x4_1.length : Int) := of_decide_eq_true (by first | (with_reducible assumption) | assumption)
                                obtain ⟨ad169, e169, hx169_0⟩ := Kd.at_int (Kd.R_reads' HO_4.out).2.2 x14_2 p169 q169
                                cases e169
                                replace p169 := eq_true p169
                                replace q169 := eq_true q169
                                refine start_ (n := 18) (S := fun w' => w'.cell? ⟨gb158, 0, none⟩ = some (.bool true) ∧ w'.cell? ⟨gb158, 1, none⟩ = some (.int .u64 t167) ∧ w'.cell? ⟨gb158, 2, none⟩ = some (.int .i64 t168) ∧ w'.cell? (ad169.add (x14_2).toNat) = some (.int .u64 (rd x4_1 x14_2))) (ds := []) #[false, false, false, false, false, false, false, false, false, false, false, false, false, false, false, false, false, false] (by kernel_rfl) rfl rfl ⟨(blk_cell BK158.out 0).trans rfl, (blk_cell BK158.out 1).trans rfl, (blk_cell BK158.out 2).trans rfl, hx169_0⟩ (fun hHeld => ?_); refine with_tabW laws_FnBits.tab39 laws_FnBits.bits39 (fun HT_ HW_ => ?_)
                                generalize w90.drew = w91 at HO_4 HO_5 HO_124000 BK123 BK158 HB hx169_0 hHeld ⊢
                                refine pure_ (i := 0) (N := some 139) (v := ?_) (a' := ?_) #[true, false, false, false, false, false, false, false, false, false, false, false, false, false, false, false, false, false] rfl rfl (any_of HT_.out (by kernel_rfl)) (fun _ _ _ h => h) (Or.inl ⟨by rfl, ?_⟩) ?_ ?_
                                rotate_left
                                · intro w'
                                  go_simp
                                  with_reducible rfl
                                rotate_left
                                · simp only [Act.put, List.setIfInBounds_toArray, List.set_cons_zero, List.set_cons_succ, i64_w, i32_w]
                                  rfl
                                refine take_ (i := 1) (N := some 140) (v := ?_) (a' := ?_) #[true, true, false, false, false, false, false, false, false, false, false, false, false, false, false, false, false, false] rfl rfl (take_ofW HT_.out HW_.out (by kernel_rfl)) (fun _ _ _ h => h) (Or.inl ⟨by rfl, ?_⟩) hHeld ?_ ?_
                                rotate_left
                                · rintro w' ⟨s0, s1, s2, s3⟩
                                  go_simp
                                  with_reducible rfl
                                rotate_left
                                · simp only [Act.put, List.setIfInBounds_toArray, List.set_cons_zero, List.set_cons_succ, i64_w, i32_w]
                                  rfl
                                refine pure_ (i := 2) (N := some 141) (v := ?_) (a' := ?_) #[true, true, true, false, false, false, false, false, false, false, false, false, false, false, false, false, false, false] rfl rfl (any_of HT_.out (by kernel_rfl)) (fun _ _ _ h => h) (Or.inl ⟨by rfl, ?_⟩) ?_ ?_
                                rotate_left
                                · intro w'
                                  go_simp
                                  with_reducible rfl
                                rotate_left
                                · simp only [Act.put, List.setIfInBounds_toArray, List.set_cons_zero, List.set_cons_succ, i64_w, i32_w]
                                  rfl
                                refine pure_ (i := 3) (N := some 142) (v := ?_) (a' := ?_) #[true, true, true, true, false, false, false, false, false, false, false, false, false, false, false, false, false, false] rfl rfl (any_of HT_.out (by kernel_rfl)) (fun _ _ _ h => h) (Or.inl ⟨by rfl, ?_⟩) ?_ ?_
                                rotate_left
                                · intro w'
                                  go_simp
                                  with_reducible rfl
                                rotate_left
                                · simp only [Act.put, List.setIfInBounds_toArray, List.set_cons_zero, List.set_cons_succ, i64_w, i32_w]
                                  rfl
                                refine pure_ (i := 4) (N := some 143) (v := ?_) (a' := ?_) #[true, true, true, true, true, false, false, false, false, false, false, false, false, false, false, false, false, false] rfl rfl (any_of HT_.out (by kernel_rfl)) (fun _ _ _ h => h) (Or.inl ⟨by rfl, ?_⟩) ?_ ?_
                                rotate_left
                                · intro w'
                                  go_simp
                                  with_reducible rfl
                                rotate_left
                                · simp only [Act.put, List.setIfInBounds_toArray, List.set_cons_zero, List.set_cons_succ, i64_w, i32_w]
                                  rfl
                                refine pure_ (i := 6) (N := some 145) (v := ?_) (a' := ?_) #[true, true, true, true, true, false, true, false, false, false, false, false, false, false, false, false, false, false] rfl rfl (any_of HT_.out (by kernel_rfl)) (fun _ _ _ h => h) (Or.inl ⟨by rfl, ?_⟩) ?_ ?_
                                rotate_left
                                · intro w'
                                  go_simp
                                  with_reducible rfl
                                rotate_left
                                · simp only [Act.put, List.setIfInBounds_toArray, List.set_cons_zero, List.set_cons_succ, i64_w, i32_w]
                                  rfl
                                refine pure_ (i := 7) (N := some 146) (v := ?_) (a' := ?_) #[true, true, true, true, true, false, true, true, false, false, false, false, false, false, false, false, false, false] rfl rfl (any_of HT_.out (by kernel_rfl)) (fun _ _ _ h => h) (Or.inl ⟨by rfl, ?_⟩) ?_ ?_
                                rotate_left
                                · intro w'
                                  go_simp
                                  with_reducible rfl
                                rotate_left
                                · simp only [Act.put, List.setIfInBounds_toArray, List.set_cons_zero, List.set_cons_succ, i64_w, i32_w]
                                  rfl
                                refine pure_ (i := 8) (N := some 147) (v := ?_) (a' := ?_) #[true, true, true, true, true, false, true, true, true, false, false, false, false, false, false, false, false, false] rfl rfl (any_of HT_.out (by kernel_rfl)) (fun _ _ _ h => h) (Or.inl ⟨by rfl, ?_⟩) ?_ ?_
                                rotate_left
                                · intro w'
                                  go_simp
                                  with_reducible rfl
                                rotate_left
                                · simp only [Act.put, List.setIfInBounds_toArray, List.set_cons_zero, List.set_cons_succ, i64_w, i32_w]
                                  rfl
                                refine take_ (i := 5) (N := some 144) (v := ?_) (a' := ?_) #[true, true, true, true, true, true, true, true, true, false, false, false, false, false, false, false, false, false] rfl rfl (take_ofW HT_.out HW_.out (by kernel_rfl)) (fun _ _ _ h => h) (Or.inl ⟨by rfl, ?_⟩) hHeld ?_ ?_
                                rotate_left
                                · rintro w' ⟨s0, s1, s2, s3⟩
                                  go_simp
                                  with_reducible rfl
                                rotate_left
                                · simp only [Act.put, List.setIfInBounds_toArray, List.set_cons_zero, List.set_cons_succ, i64_w, i32_w]
                                  rfl
                                refine take_ (i := 9) (N := some 148) (v := ?_) (a' := ?_) #[true, true, true, true, true, true, true, true, true, true, false, false, false, false, false, false, false, false] rfl rfl (take_ofW HT_.out HW_.out (by kernel_rfl)) (fun _ _ _ h => h) (Or.inl ⟨by rfl, ?_⟩) hHeld ?_ ?_
                                rotate_left
                                · rintro w' ⟨s0, s1, s2, s3⟩
                                  go_simp
                                  with_reducible rfl
                                rotate_left
                                · simp only [Act.put, List.setIfInBounds_toArray, List.set_cons_zero, List.set_cons_succ, i64_w, i32_w]
                                  rfl
                                refine pure_ (i := 10) (N := some 149) (v := ?_) (a' := ?_) #[true, true, true, true, true, true, true, true, true, true, true, false, false, false, false, false, false, false] rfl rfl (any_of HT_.out (by kernel_rfl)) (fun _ _ _ h => h) (Or.inl ⟨by rfl, ?_⟩) ?_ ?_
                                rotate_left
                                · intro w'
                                  go_simp
                                  with_reducible rfl
                                rotate_left
                                · simp only [Act.put, List.setIfInBounds_toArray, List.set_cons_zero, List.set_cons_succ, i64_w, i32_w]
                                  rfl
                                refine pure_ (i := 11) (N := some 150) (v := ?_) (a' := ?_) #[true, true, true, true, true, true, true, true, true, true, true, true, false, false, false, false, false, false] rfl rfl (any_of HT_.out (by kernel_rfl)) (fun _ _ _ h => h) (Or.inl ⟨by rfl, ?_⟩) ?_ ?_
                                rotate_left
                                · intro w'
                                  go_simp
                                  with_reducible rfl
                                rotate_left
                                · simp only [Act.put, List.setIfInBounds_toArray, List.set_cons_zero, List.set_cons_succ, i64_w, i32_w]
                                  rfl
                                refine pure_ (i := 12) (N := some 151) (v := ?_) (a' := ?_) #[true, true, true, true, true, true, true, true, true, true, true, true, true, false, false, false, false, false] rfl rfl (any_of HT_.out (by kernel_rfl)) (fun _ _ _ h => h) (Or.inl ⟨by rfl, ?_⟩) ?_ ?_
                                rotate_left
                                · intro w'
                                  go_simp
                                  with_reducible rfl
                                rotate_left
                                · simp only [Act.put, List.setIfInBounds_toArray, List.set_cons_zero, List.set_cons_succ, i64_w, i32_w]
                                  rfl
                                refine pure_ (i := 13) (N := some 152) (v := ?_) (a' := ?_) #[true, true, true, true, true, true, true, true, true, true, true, true, true, true, false, false, false, false] rfl rfl (any_of HT_.out (by kernel_rfl)) (fun _ _ _ h => h) (Or.inl ⟨by rfl, ?_⟩) ?_ ?_
                                rotate_left
                                · intro w'
                                  go_simp
                                  with_reducible rfl
                                rotate_left
                                · simp only [Act.put, List.setIfInBounds_toArray, List.set_cons_zero, List.set_cons_succ, i64_w, i32_w]
                                  rfl
                                refine pure_ (i := 15) (N := some 154) (v := ?_) (a' := ?_) #[true, true, true, true, true, true, true, true, true, true, true, true, true, true, false, true, false, false] rfl rfl (any_of HT_.out (by kernel_rfl)) (fun _ _ _ h => h) (Or.inl ⟨by rfl, ?_⟩) ?_ ?_
                                rotate_left
                                · intro w'
                                  go_simp
                                  with_reducible rfl
                                rotate_left
                                · simp only [Act.put, List.setIfInBounds_toArray, List.set_cons_zero, List.set_cons_succ, i64_w, i32_w]
                                  rfl
                                refine take_ (i := 14) (N := some 153) (v := ?_) (a' := ?_) #[true, true, true, true, true, true, true, true, true, true, true, true, true, true, true, true, false, false] rfl rfl (take_ofW HT_.out HW_.out (by kernel_rfl)) (fun _ _ _ h => h) (Or.inl ⟨by rfl, ?_⟩) hHeld ?_ ?_
                                rotate_left
                                · rintro w' ⟨s0, s1, s2, s3⟩
                                  go_simp
                                  with_reducible rfl
                                rotate_left
                                · simp only [Act.put, List.setIfInBounds_toArray, List.set_cons_zero, List.set_cons_succ, i64_w, i32_w]
                                  rfl
                                refine pure_ (i := 16) (N := some 155) (v := ?_) (a' := ?_) #[true, true, true, true, true, true, true, true, true, true, true, true, true, true, true, true, true, false] rfl rfl (any_of HT_.out (by kernel_rfl)) (fun _ _ _ h => h) (Or.inl ⟨by rfl, ?_⟩) ?_ ?_
                                rotate_left
                                · intro w'
                                  go_simp
                                  with_reducible rfl
                                rotate_left
                                · simp only [Act.put, List.setIfInBounds_toArray, List.set_cons_zero, List.set_cons_succ, i64_w, i32_w]
                                  rfl
                                refine pure_ (i := 17) (N := some 156) (v := ?_) (a' := ?_) #[true, true, true, true, true, true, true, true, true, true, true, true, true, true, true, true, true, true] rfl rfl (any_of HT_.out (by kernel_rfl)) (fun _ _ _ h => h) (Or.inl ⟨by rfl, ?_⟩) ?_ ?_
                                rotate_left
                                · intro w'
                                  go_simp
                                  with_reducible rfl
                                rotate_left
                                · simp only [Act.put, List.setIfInBounds_toArray, List.set_cons_zero, List.set_cons_succ, i64_w, i32_w]
                                  rfl
                                refine done_ (done_of HT_.out (by kernel_rfl)) ?_
                                have hcz93_0 : w91.cell? ⟨gb158, 0, none⟩ = some (.bool true) := (blk_cell BK158.out 0).trans rfl
                                have hcz93_1 : w91.cell? ⟨gb158, 1, none⟩ = some (.int .u64 t167) := (blk_cell BK158.out 1).trans rfl
                                have hcz93_2 : w91.cell? ⟨gb158, 2, none⟩ = some (.int .i64 t168) := (blk_cell BK158.out 2).trans rfl
                                have hfz93_0 := blk_frozen BK158.out 0
                                have hfz93_1 := blk_frozen BK158.out 1
                                have hfz93_2 := blk_frozen BK158.out 2
                                try go_wp2
                                go_roundg k2
                                case measure => have := HK1.out; have := HK2.out; omega
                                case rel => exact ⟨(t168), (wrap64 (x14_2 + 1)), (by first | rfl | (simp; done) | (simp [*]; done)), (by first | rfl | (simp; done) | (simp [*]; done)), H', ⟨by have := HK1.out; have := HK2.out; omega⟩, ⟨by (with_reducible repeat (first | apply Kd.R_alloc | apply Kd.R_drewN | apply Kd.R_drew)); exact HO_4.out⟩, ⟨by (with_reducible repeat (first | apply Kd.R_alloc | apply Kd.R_drewN | apply Kd.R_drew)); exact HO_5.out⟩, ⟨by (with_reducible repeat (first | apply Kd.R_alloc | apply Kd.R_drewN | apply Kd.R_drew)); exact HO_124000.out⟩, ⟨by (with_reducible repeat (first | refine blk_drewN ?_ _ | refine blk_drew ?_ | refine blk_alloc ?_ _)); exact BK123.out⟩, ⟨by repeat (first | (with_reducible first | exact HB.out | apply below_alloc | apply pw_below_drewN | apply below_drew1 | refine below_set ?_ GE123.out | refine below_set ?_ GE158.out) | exact HB.out)⟩⟩
                            · rw [if_neg c78] at H
                              have c78b0 : (t167 == (rd x4_1 x14_2)) = false := beq_eq_false_iff_ne.mpr c78
                              have c78b1 : (t167 != (rd x4_1 x14_2)) = true := bne_iff_ne.mpr c78
                              obtain rfl := Option.some.inj H
                              exact absurd hlaw.out (by simp)
                          · rw [if_neg c77] at H
                            exact absurd H (by simp)
                        · replace c76 := Bool.eq_false_iff.mpr c76
                          subst c76
                          have H1 : (some false) = some r := by rw [if_neg (show ¬ (false = true) by decide)] at H; exact H
                          clear H
                          have H := H1
                          clear H1
                          obtain rfl := Option.some.inj H
                          exact absurd hlaw.out (by simp)
                    · rw [if_neg c54] at H
                      exact absurd H (by simp)
                  · rw [if_neg c53] at H
                    exact absurd H (by simp)
                · rw [if_neg c52] at H
                  have c52b0 : decide (x14_2 < (wrap64 (1 + t130))) = false := decide_eq_false c52
                  clear c52
                  by_cases c94 : x13_2 = x124001_1
                  · rw [if_pos c94] at H
                    have c94b0 : (x13_2 == x124001_1) = true := beq_iff_eq.mpr c94
                    have c94b1 : (x13_2 != x124001_1) = false := bne_eq_false_iff_eq.mpr c94
                    clear c94
                    replace H := Option.bind_eq_some_iff.mp H
                    obtain ⟨⟨t155, t156, t157⟩, A950, H⟩ := H
                    replace H : (some (!t155)) = some r := H
                    have A95 := Aside0.mk A950
                    clear A950
                    obtain rfl := Option.some.inj H
                    have hcz96_0 : wr.cell? ⟨gb123, 0, none⟩ = some (.slice Ao51 x124000_1.length co51) := (blk_cell BK123.out 0).trans rfl
                    have hcz96_1 : wr.cell? ⟨gb123, 1, none⟩ = some (.int .i64 x124001_1) := (blk_cell BK123.out 1).trans rfl
                    have hfz96_0 := blk_frozen BK123.out 0
                    have hfz96_1 := blk_frozen BK123.out 1
                    have hfd_ : ∀ w_ : World, (Instr.field 62 (.agg #[.bool t155, .int .u64 t156, .int .i64 t157]) 0).run Try.prog w_ = .ok (.bool t155) w_ := fun _ => by kernel_rfl
                    go_wp2_with (first | (go_at_call 39; (with_reducible refine (impl_GetBits.calls k2 _ _ x124000_1 x124001_1 x13_2 1 t155 t156 t157 _ ?side1 ?side2 A95.out).mono ?_); (case side1 => repeat (first | exact (Kd.R_reads' HO_124000.out).2.2 | (with_reducible refine Kd.C_alloc ?_ _) | (with_reducible refine Kd.C_drewN ?_ _) | (with_reducible refine Kd.C_drew ?_))); (case side2 => exact (Kd.R_reads' HO_124000.out).2.1); rintro e w97 ⟨rfl, hb⟩; have n0_ := Aside0.mk (Kd.R_below (by (with_reducible repeat (first | apply Kd.R_alloc | apply Kd.R_drewN | apply Kd.R_drew)); exact HO_4.out) hb); have n1_ := Aside0.mk (Kd.R_below (by (with_reducible repeat (first | apply Kd.R_alloc | apply Kd.R_drewN | apply Kd.R_drew)); exact HO_5.out) hb); have n2_ := Aside0.mk (Kd.R_below (by (with_reducible repeat (first | apply Kd.R_alloc | apply Kd.R_drewN | apply Kd.R_drew)); exact HO_124000.out) hb); have n3_ := Aside0.mk (blk_below (g := gb123) (o := .cells #[.slice Ao51 x124000_1.length co51, .int .i64 x124001_1] 64 (0, 0)) (by (with_reducible repeat (first | refine blk_drewN ?_ _ | refine blk_drew ?_ | refine blk_alloc ?_ _)); exact BK123.out) hb); have n4_ := Aside0.mk (below_step (by repeat (first | (with_reducible first | exact HB.out | apply below_alloc | apply pw_below_drewN | apply below_drew1 | refine below_set ?_ GE123.out) | exact HB.out)) hb); clear HO_4; clear HO_5; clear HO_124000; clear BK123; clear HB; have HO_4 := n0_; have HO_5 := n1_; have HO_124000 := n2_; have BK123 := n3_; have HB := n4_; clear n0_ n1_ n2_ n3_ n4_; (try clear hb); (try clear hb2); (try clear hk); (try clear hi)))
                    go_ret
                    exact ⟨by first | rfl | (simp [errW_none, errW_some] <;> rfl) | (simp [*, errW_none, errW_some] <;> rfl), by repeat (first | (with_reducible first | exact HB.out | apply below_alloc | apply pw_below_drewN | apply below_drew1 | refine below_set ?_ GE123.out) | exact HB.out)⟩
                  · rw [if_neg c94] at H
                    have c94b0 : (x13_2 == x124001_1) = false := beq_eq_false_iff_ne.mpr c94
                    have c94b1 : (x13_2 != x124001_1) = true := bne_iff_ne.mpr c94
                    obtain rfl := Option.some.inj H
                    exact absurd hlaw.out (by simp)
          · rw [if_neg c49] at H
            have c49b0 : ((x124000_1.length : Int) == (wrap64 (Int.tdiv (wrap64 (x124001_1 + 7)) 8))) = false := beq_eq_false_iff_ne.mpr c49
            have c49b1 : ((x124000_1.length : Int) != (wrap64 (Int.tdiv (wrap64 (x124001_1 + 7)) 8))) = true := bne_iff_ne.mpr c49
            obtain rfl := Option.some.inj H
            exact absurd hlaw.out (by simp)

/-- THE ONE PURE STATEMENT of laws_FnBits: yours. -/
def laws_FnBits.Pure : Prop := ∀ (l0 : List Int), l0.length ≤ maxLen → l0.length * 1 ≤ 140737488351232 → (∀ x ∈ l0, (Lit.int .u8 x).wf = true) → ∃ k, laws_FnBits.f k l0 = some true
theorem laws_FnBits.walk (P : laws_FnBits.Pure) (a0 : Option Addr) (len0 cap0 : Nat) (z0 : List Int) (w : World) (w0 : (a0 = none ∧ len0 = 0 ∧ cap0 = 0 ∧ z0 = []) ∨ ∃ x, a0 = some x ∧ len0 ≤ cap0 ∧ cap0 ≤ maxLen ∧ z0.length = cap0 ∧ (∀ i, i < z0.length → w.cell? (x.add i) = some (.int .u8 (z0.getD i 0))) ∧ ∀ n ∈ z0, (Lit.int .u8 n).wf = true) (y0 : len0 * 1 ≤ 140737488351232) :
    Calls Try.prog 14 #[.slice a0 len0 cap0] w fun e w' => e = .returned (.bool true) ∧ Below w.heap.size w w' := by
  obtain ⟨l0, rfl, hr0, hm0, hw0, hc0⟩ := ReadsInt.ofRowC w0
  obtain ⟨k, h⟩ := P l0 hm0 y0 hw0
  refine (laws_FnBits.calls k _ _ l0 true w (Kd.C_of_reads (d := (0 : Int)) (h1 := fun _ => rfl) hr0) hc0 h ⟨rfl⟩).mono ?_
  rintro e w' ⟨rfl, hd⟩
  exact ⟨rfl, hd⟩

end Go.Proofs.Ythfhenhlfedfmaa.QFnBits
