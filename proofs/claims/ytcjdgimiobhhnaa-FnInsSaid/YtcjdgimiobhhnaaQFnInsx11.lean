-- written by mp.py, a program of this session, over the translation; Lean checks it
import Derived.Test.YtcjdgimiobhhnaaQFnInsx0
import Derived.Test.YtcjdgimiobhhnaaQFnInsx1e
import Derived.Test.YtcjdgimiobhhnaaQFnInsx2
import Derived.Test.YtcjdgimiobhhnaaQFnInsx4
import Derived.Test.YtcjdgimiobhhnaaQFnInsx5
import Derived.Test.YtcjdgimiobhhnaaQFnInsx6
import Derived.Test.YtcjdgimiobhhnaaQFnInsx9
namespace Go.Proofs.Ytcjdgimiobhhnaa.QFnIns
open Go.RowKit Go.Proofs.YtcjdgimiobhhnaaW.PrintWords Go.Proofs.YtcjdgimiobhhnaaW.PrintLast Go.Proofs.YtcjdgimiobhhnaaW.PrintMore
attribute [local go_sem] max2_int min2_int max_two min_two max_three min_three max_four min_four   -- for this text's walks alone
set_option linter.unusedVariables false
set_option linter.unusedSimpArgs false

attribute [local go_sem high] eqA41
/-! ### laws_FnIns: function 8 -/
mutual
def laws_FnIns.j0 : Nat → List Int → List Int → Bool → Option (Bool)
 | 0, _, _, _ => none
 | k + 1, x0, x1, x17 => if x17 = true then (some true) else ((spec_DrawInsFault.f k x0).bind fun bt414 => ((impl_EncodeIns.f k bt414.1 bt414.2.1 bt414.2.2.1 bt414.2.2.2.1 bt414.2.2.2.2).bind fun t420 => ((impl_InsFault.f k bt414.1 bt414.2.1 bt414.2.2.1 bt414.2.2.2.1 bt414.2.2.2.2).bind fun t423 => (if t423 = true then ((spec_InsFault.f k bt414.1 bt414.2.1 bt414.2.2.1 bt414.2.2.2.1 bt414.2.2.2.2).bind fun t424 => (if t424 = true then (some ((t420.length : Int) == 0)) else (some false))) else ((impl_DecodeIns.f k t420).bind fun bt425 => (if (t420.length : Int) = 8 then (if bt425.1 = true then (if (!(bt425.2.1 == bt414.1) || (!(bt425.2.2.1 == bt414.2.1) || (!(bt425.2.2.2.1 == bt414.2.2.1) || (!(bt425.2.2.2.2.1 == bt414.2.2.2.1) || (!(bt425.2.2.2.2.2 == bt414.2.2.2.2)))))) = true then (laws_FnIns.j1 k x1 true) else (if 7 ≤ (t420.length : Int) then ((impl_DecodeIns.f k (t420.take 7)).bind fun bt436 => (laws_FnIns.j1 k x1 bt436.1)) else (none))) else (laws_FnIns.j1 k x1 true)) else (laws_FnIns.j1 k x1 true)))))))
def laws_FnIns.j1 : Nat → List Int → Bool → Option (Bool)
 | 0, _, _ => none
 | k + 1, x1, x52 => if x52 = true then (some false) else ((spec_DrawDecodeIns.f k x1).bind fun t442 => ((impl_DecodeIns.f k t442).bind fun bt445 => ((spec_DecodeIns.f k t442).bind fun bt452 => (if (bt445.1 == bt452.1) = true then (if bt445.1 = true then ((impl_EncodeIns.f k bt445.2.1 bt445.2.2.1 bt445.2.2.2.1 bt445.2.2.2.2.1 bt445.2.2.2.2.2).bind fun t458 => (some ((strOfNums t458).toList == (strOfNums t442).toList))) else (some true)) else (some false)))))
end
def laws_FnIns.f (k : Nat) (l0 : List Int) (l1 : List Int) : Option (Bool) := if (l0.length : Int) > 1048576 then (laws_FnIns.j0 k l0 l1 true) else (laws_FnIns.j0 k l0 l1 (decide ((l1.length : Int) > 1048576)))
theorem laws_FnIns.mono_l : ∀ k, (∀ y0 y1 y2, LeO (laws_FnIns.j0 k y0 y1 y2) (laws_FnIns.j0 (k + 1) y0 y1 y2)) ∧ (∀ y0 y1, LeO (laws_FnIns.j1 k y0 y1) (laws_FnIns.j1 (k + 1) y0 y1))
 | 0 => ⟨fun _ _ _ r h => by simp [laws_FnIns.j0] at h, fun _ _ r h => by simp [laws_FnIns.j1] at h⟩
 | k + 1 => by
  obtain ⟨ih0, ih1⟩ := laws_FnIns.mono_l k
  refine ⟨?_, ?_⟩
  ·intro y0 y1 y2
   unfold laws_FnIns.j0
   repeat' first
   | (with_reducible exact ih0 _ _ _)
   | (with_reducible exact ih1 _ _)
   | (with_reducible exact impl_DecodeIns.mono _ _)
   | (with_reducible exact impl_EncodeIns.mono _ _ _ _ _ _)
   | (with_reducible exact impl_InsFault.mono _ _ _ _ _ _)
   | (with_reducible exact spec_DecodeIns.mono _ _)
   | (with_reducible exact spec_DrawDecodeIns.mono _ _)
   | (with_reducible exact spec_DrawInsFault.mono _ _)
   | (with_reducible exact spec_InsFault.mono _ _ _ _ _ _)
   | (with_reducible exact LeO.refl _)
   | (with_reducible exact LeO.none _)
   | (with_reducible refine LeO.ite ?_ ?_)
   | (with_reducible refine LeO.bind ?_ (fun _ => ?_))
   | exact ih0 _ _ _
   | exact ih1 _ _
   | exact impl_DecodeIns.mono _ _
   | exact impl_EncodeIns.mono _ _ _ _ _ _
   | exact impl_InsFault.mono _ _ _ _ _ _
   | exact spec_DecodeIns.mono _ _
   | exact spec_DrawDecodeIns.mono _ _
   | exact spec_DrawInsFault.mono _ _
   | exact spec_InsFault.mono _ _ _ _ _ _
   | exact LeO.none _
   | refine LeO.ite ?_ ?_
   | refine LeO.bind ?_ (fun _ => ?_)
  ·intro y0 y1
   unfold laws_FnIns.j1
   repeat' first
   | (with_reducible exact ih0 _ _ _)
   | (with_reducible exact ih1 _ _)
   | (with_reducible exact impl_DecodeIns.mono _ _)
   | (with_reducible exact impl_EncodeIns.mono _ _ _ _ _ _)
   | (with_reducible exact impl_InsFault.mono _ _ _ _ _ _)
   | (with_reducible exact spec_DecodeIns.mono _ _)
   | (with_reducible exact spec_DrawDecodeIns.mono _ _)
   | (with_reducible exact spec_DrawInsFault.mono _ _)
   | (with_reducible exact spec_InsFault.mono _ _ _ _ _ _)
   | (with_reducible exact LeO.refl _)
   | (with_reducible exact LeO.none _)
   | (with_reducible refine LeO.ite ?_ ?_)
   | (with_reducible refine LeO.bind ?_ (fun _ => ?_))
   | exact ih0 _ _ _
   | exact ih1 _ _
   | exact impl_DecodeIns.mono _ _
   | exact impl_EncodeIns.mono _ _ _ _ _ _
   | exact impl_InsFault.mono _ _ _ _ _ _
   | exact spec_DecodeIns.mono _ _
   | exact spec_DrawDecodeIns.mono _ _
   | exact spec_DrawInsFault.mono _ _
   | exact spec_InsFault.mono _ _ _ _ _ _
   | exact LeO.none _
   | refine LeO.ite ?_ ?_
   | refine LeO.bind ?_ (fun _ => ?_)
theorem laws_FnIns.mono : ∀ a0 a1 k, LeO (laws_FnIns.f k a0 a1) (laws_FnIns.f (k + 1) a0 a1) := by
 intro a0 a1 k
 obtain ⟨ih0, ih1⟩ := laws_FnIns.mono_l k
 unfold laws_FnIns.f
 repeat' first
   | (with_reducible exact ih0 _ _ _)
   | (with_reducible exact ih1 _ _)
   | (with_reducible exact impl_DecodeIns.mono _ _)
   | (with_reducible exact impl_EncodeIns.mono _ _ _ _ _ _)
   | (with_reducible exact impl_InsFault.mono _ _ _ _ _ _)
   | (with_reducible exact spec_DecodeIns.mono _ _)
   | (with_reducible exact spec_DrawDecodeIns.mono _ _)
   | (with_reducible exact spec_DrawInsFault.mono _ _)
   | (with_reducible exact spec_InsFault.mono _ _ _ _ _ _)
   | (with_reducible exact LeO.refl _)
   | (with_reducible exact LeO.none _)
   | (with_reducible refine LeO.ite ?_ ?_)
   | (with_reducible refine LeO.bind ?_ (fun _ => ?_))
   | exact ih0 _ _ _
   | exact ih1 _ _
   | exact impl_DecodeIns.mono _ _
   | exact impl_EncodeIns.mono _ _ _ _ _ _
   | exact impl_InsFault.mono _ _ _ _ _ _
   | exact spec_DecodeIns.mono _ _
   | exact spec_DrawDecodeIns.mono _ _
   | exact spec_DrawInsFault.mono _ _
   | exact spec_InsFault.mono _ _ _ _ _ _
   | exact LeO.none _
   | refine LeO.ite ?_ ?_
   | refine LeO.bind ?_ (fun _ => ?_)
def laws_FnIns.T12 : Bool × List (List Nat × List Nat) := (true, [([], []), ([0], [0]), ([], []), ([2], [2]), ([3], [3]), ([1, 4], [1, 4]), ([5, 3], [5]), ([6], [6]), ([7, 6], [6, 7]), ([8, 6], [6, 8]), ([9, 6, 6], [6, 9]), ([10], [10]), ([11, 10], [10, 11]), ([12, 10, 10], [10, 12]), ([13, 10], [10, 13]), ([10], [10]), ([15, 10], [10, 15]), ([14, 16, 10], [10, 14, 16]), ([10, 17, 6], [6, 10, 17]), ([6, 18], [6, 18]), ([19, 13, 0, 1, 2, 3, 4, 5, 6, 7, 8, 9, 10, 11, 12, 13, 14, 15, 16, 17, 18, 19], [19])])
def laws_FnIns.B12 : List Nat := [0, 1, 0, 4, 12, 31, 63, 127, 255, 511, 1023, 2047, 4095, 8191, 16383, 2047, 34815, 131071, 262143, 524287, 1048575]
theorem laws_FnIns.tab12 : rtab .any (opsOf Try.f8 12) = laws_FnIns.T12 := by kernel_rfl
theorem laws_FnIns.bits12 : waitsOk laws_FnIns.T12.2 laws_FnIns.B12 = true := by kernel_rfl
set_option maxHeartbeats 8000000 in
set_option maxRecDepth 100000 in
theorem laws_FnIns.calls (k : Nat) (A0 : Option Addr) (c0 : Nat) (l0 : List Int) (A1 : Option Addr) (c1 : Nat) (l1 : List Int) (r : Bool) (w : World) (hr0 : Kd.C (Kd.int .u8) w A0 l0.length l0) (hc0 : l0.length ≤ c0) (hr1 : Kd.C (Kd.int .u8) w A1 l1.length l1) (hc1 : l1.length ≤ c1) (h : laws_FnIns.f k l0 l1 = some r) (hlaw : Aside0 (r = true)) :
    Calls Try.prog 8 #[.slice A0 l0.length c0, .slice A1 l1.length c1] w fun e w' => e = .returned (.bool r) ∧ Below w.heap.size w w' := by
 have hu41 := Try.underlying41
 have hu47 := Try.underlying47
 have HR0 := Aside0.mk hr0
 have HC0 := Aside0.mk hc0
 clear hr0 hc0
 have HR1 := Aside0.mk hr1
 have HC1 := Aside0.mk hc1
 clear hr1 hc1
 have HB := Aside0.mk (Below.refl w.heap.size w)
 have H : (if (l0.length : Int) > 1048576 then (laws_FnIns.j0 k l0 l1 true) else (laws_FnIns.j0 k l0 l1 (decide ((l1.length : Int) > 1048576)))) = some r := h
 clear h
 have HC3 := Aside0.mk H
 clear H
 go_enter Try.func8, Try.ntmps8
 go_upto_region 1 with (fail)
 go_cut [17] (fun v17 wc => ∃ (kq : Nat) (x17_2 : Bool), v17 = .bool x17_2 ∧ Aside0 (laws_FnIns.j0 kq l0 l1 x17_2 = some r) ∧ Aside0 (kq ≤ k) ∧ Aside0 (Below w.heap.size w wc))
 case first =>
  have H := HC3.out
  clear HC3
  by_cases c4 : (l0.length : Int) > 1048576
  ·rw [if_pos c4] at H
   have c4b0 : decide (1048576 < (l0.length : Int)) = true := decide_eq_true c4
   have c4b1 : decide (1048576 < l0.length) = true := decide_eq_true (by omega)
   clear c4
   (first | rw [c4b0] | (simp only [i64_w, i32_w]; rw [c4b0]) | skip)
   have H' := Aside0.mk H
   clear H
   go_wp2
   go_meet
   case rel => exact ⟨_, (true), (by first | rfl | (simp; done) | (simp [*]; done)), H', ⟨by first | omega | exact Nat.le_refl _⟩, ⟨by repeat (first | (with_reducible first | exact HB.out | apply below_alloc | apply pw_below_drewN | apply below_drew1) | exact HB.out)⟩⟩
  ·rw [if_neg c4] at H
   have c4b0 : decide (1048576 < (l0.length : Int)) = false := decide_eq_false c4
   have c4b1 : decide (1048576 < l0.length) = false := decide_eq_false (by omega)
   clear c4
   (first | rw [c4b0] | (simp only [i64_w, i32_w]; rw [c4b0]) | skip)
   have H' := Aside0.mk H
   clear H
   go_wp2
   go_meet
   case rel => exact ⟨_, (decide ((l1.length : Int) > 1048576)), (by first | rfl | (simp; done) | (simp [*]; done)), H', ⟨by first | omega | exact Nat.le_refl _⟩, ⟨by repeat (first | (with_reducible first | exact HB.out | apply below_alloc | apply pw_below_drewN | apply below_drew1) | exact HB.out)⟩⟩
 case rest =>
  clear HC3
  try clear c1
  try clear p2
  try clear c4
  try clear c4b0
  try clear c4b1
  obtain ⟨kq, x17_2, rfl, HA, HJ2, HB⟩ := hcut
  cases kq with
  | zero => exact absurd HA.out (by simp [laws_FnIns.j0])
  | succ kj2 =>
   have H := HA.out
   clear HA
   simp only [laws_FnIns.j0] at H
   by_cases c5 : x17_2 = true
   ·subst c5
    rw [if_pos rfl] at H
    obtain rfl := Option.some.inj H
    go_wp2
    go_ret
    exact ⟨by first | rfl | (simp [*] <;> rfl), by repeat (first | (with_reducible first | exact HB.out | apply below_alloc | apply pw_below_drewN | apply below_drew1) | exact HB.out)⟩
   ·replace c5 := Bool.eq_false_iff.mpr c5
    subst c5
    rw [if_neg (show ¬ (false = true) by decide)] at H
    replace H := Option.bind_eq_some_iff.mp H
    obtain ⟨⟨t414, t415, t416, t417, t418⟩, A60, H⟩ := H
    replace H : ((impl_EncodeIns.f kj2 t414 t415 t416 t417 t418).bind fun t420 => ((impl_InsFault.f kj2 t414 t415 t416 t417 t418).bind fun t423 => (if t423 = true then ((spec_InsFault.f kj2 t414 t415 t416 t417 t418).bind fun t424 => (if t424 = true then (some ((t420.length : Int) == 0)) else (some false))) else ((impl_DecodeIns.f kj2 t420).bind fun bt425 => (if (t420.length : Int) = 8 then (if bt425.1 = true then (if (!(bt425.2.1 == t414) || (!(bt425.2.2.1 == t415) || (!(bt425.2.2.2.1 == t416) || (!(bt425.2.2.2.2.1 == t417) || (!(bt425.2.2.2.2.2 == t418)))))) = true then (laws_FnIns.j1 kj2 l1 true) else (if 7 ≤ (t420.length : Int) then ((impl_DecodeIns.f kj2 (t420.take 7)).bind fun bt436 => (laws_FnIns.j1 kj2 l1 bt436.1)) else (none))) else (laws_FnIns.j1 kj2 l1 true)) else (laws_FnIns.j1 kj2 l1 true)))))) = some r := H
    have A6 := Aside0.mk A60
    clear A60
    replace H := Option.bind_eq_some_iff.mp H
    obtain ⟨t420, A70, H⟩ := H
    replace H : ((impl_InsFault.f kj2 t414 t415 t416 t417 t418).bind fun t423 => (if t423 = true then ((spec_InsFault.f kj2 t414 t415 t416 t417 t418).bind fun t424 => (if t424 = true then (some ((t420.length : Int) == 0)) else (some false))) else ((impl_DecodeIns.f kj2 t420).bind fun bt425 => (if (t420.length : Int) = 8 then (if bt425.1 = true then (if (!(bt425.2.1 == t414) || (!(bt425.2.2.1 == t415) || (!(bt425.2.2.2.1 == t416) || (!(bt425.2.2.2.2.1 == t417) || (!(bt425.2.2.2.2.2 == t418)))))) = true then (laws_FnIns.j1 kj2 l1 true) else (if 7 ≤ (t420.length : Int) then ((impl_DecodeIns.f kj2 (t420.take 7)).bind fun bt436 => (laws_FnIns.j1 kj2 l1 bt436.1)) else (none))) else (laws_FnIns.j1 kj2 l1 true)) else (laws_FnIns.j1 kj2 l1 true))))) = some r := H
    have A7 := Aside0.mk A70
    clear A70
    replace H := Option.bind_eq_some_iff.mp H
    obtain ⟨t423, A80, H⟩ := H
    replace H : (if t423 = true then ((spec_InsFault.f kj2 t414 t415 t416 t417 t418).bind fun t424 => (if t424 = true then (some ((t420.length : Int) == 0)) else (some false))) else ((impl_DecodeIns.f kj2 t420).bind fun bt425 => (if (t420.length : Int) = 8 then (if bt425.1 = true then (if (!(bt425.2.1 == t414) || (!(bt425.2.2.1 == t415) || (!(bt425.2.2.2.1 == t416) || (!(bt425.2.2.2.2.1 == t417) || (!(bt425.2.2.2.2.2 == t418)))))) = true then (laws_FnIns.j1 kj2 l1 true) else (if 7 ≤ (t420.length : Int) then ((impl_DecodeIns.f kj2 (t420.take 7)).bind fun bt436 => (laws_FnIns.j1 kj2 l1 bt436.1)) else (none))) else (laws_FnIns.j1 kj2 l1 true)) else (laws_FnIns.j1 kj2 l1 true)))) = some r := H
    have A8 := Aside0.mk A80
    clear A80
    by_cases c9 : t423 = true
    ·subst c9
     rw [if_pos rfl] at H
     replace H := Option.bind_eq_some_iff.mp H
     obtain ⟨t424, A100, H⟩ := H
     replace H : (if t424 = true then (some ((t420.length : Int) == 0)) else (some false)) = some r := H
     have A10 := Aside0.mk A100
     clear A100
     by_cases c11 : t424 = true
     ·subst c11
      rw [if_pos rfl] at H
      obtain rfl := Option.some.inj H
      go_wp2_with (first | ((with_reducible refine gate_callee (f := 32) rfl ?_); refine goesL_ (some 19) rfl rfl Try.func32 (by kernel_rfl) rfl #[.slice A0 l0.length c0] rfl (by (try simp only [List.map_toArray, List.map_cons, List.map_nil]); first | done | rfl | (simp only [List.length_drop, List.length_take]; rfl)) ?_; (with_reducible refine (spec_DrawInsFault.calls kj2 _ _ l0 t414 t415 t416 t417 t418 _ ?side1 ?side2 A6.out).mono ?_); (case side1 => repeat (first | exact (Kd.C_below HR0.out HB.out) | (with_reducible refine Kd.C_alloc ?_ _) | (with_reducible refine Kd.C_drewN ?_ _) | (with_reducible refine Kd.C_drew ?_))); (case side2 => exact HC0.out); rintro e w12 ⟨rfl, hb⟩; refine ⟨_, rfl, ?_⟩; have n0_ := Aside0.mk (below_step (by repeat (first | (with_reducible first | exact HB.out | apply below_alloc | apply pw_below_drewN | apply below_drew1) | exact HB.out)) hb); clear HB; have HB := n0_; clear n0_; (try clear hb); (try clear hb2); (try clear hk); (try clear hi)) | ((with_reducible refine gate_dst (N := 5) rfl ?_); (try (refine gate_guard (by rfl) ?_; dsimp only)); refine box_event ?hg (N := 5) ?hd (cs := #[.int .i64 0, .int .i64 0, .int .i64 0, .int .i64 0, .int .i64 0]) (t := 41) ?hr ?_; (case hd => rfl); (case hg => rfl); (case hr => first | (go_simp; done) | (go_simp; rfl)); intro gb419 hg w13 hbox hb; have n0_ := Aside0.mk (below_step (by repeat (first | (with_reducible first | exact HB.out | apply below_alloc | apply pw_below_drewN | apply below_drew1) | exact HB.out)) hb); have n1_ := Aside0.mk (hbox); have n2_ := Aside0.mk ((by rw [hg]; exact (below_size (by repeat (first | (with_reducible first | exact HB.out | apply below_alloc | apply pw_below_drewN | apply below_drew1) | exact HB.out))) : w.heap.size ≤ gb419)); have n3_ := Aside0.mk ((by rw [hg]; exact (below_size (by repeat (first | (with_reducible first | exact HB.out | apply below_alloc | apply pw_below_drewN | apply below_drew1) | exact HB.out))) : w.heap.size ≤ gb419)); clear HB; have HB := n0_; have BK419 := n1_; have GW419 := n2_; have GE419 := n3_; clear n0_ n1_ n2_ n3_; clear hb hbox hg; have hcz14_0 : w13.cell? ⟨gb419, 0, none⟩ = some (.int .i64 0) := (blk_cell BK419.out 0).trans rfl; have hcz14_1 : w13.cell? ⟨gb419, 1, none⟩ = some (.int .i64 0) := (blk_cell BK419.out 1).trans rfl; have hcz14_2 : w13.cell? ⟨gb419, 2, none⟩ = some (.int .i64 0) := (blk_cell BK419.out 2).trans rfl; have hcz14_3 : w13.cell? ⟨gb419, 3, none⟩ = some (.int .i64 0) := (blk_cell BK419.out 3).trans rfl; have hcz14_4 : w13.cell? ⟨gb419, 4, none⟩ = some (.int .i64 0) := (blk_cell BK419.out 4).trans rfl; have hfz14_0 := blk_frozen BK419.out 0; have hfz14_1 := blk_frozen BK419.out 1; have hfz14_2 := blk_frozen BK419.out 2; have hfz14_3 := blk_frozen BK419.out 3; have hfz14_4 := blk_frozen BK419.out 4) | ((with_reducible refine gate_callee (f := 22) rfl ?_); refine goesL_ (some 21) rfl rfl Try.func22 (by kernel_rfl) rfl #[.agg #[.int .i64 t414, .int .i64 t415, .int .i64 t416, .int .i64 t417, .int .i64 t418]] rfl (by (try simp only [List.map_toArray, List.map_cons, List.map_nil]); first | done | rfl | (simp only [List.length_drop, List.length_take]; rfl)) ?_; (with_reducible refine (impl_EncodeIns.calls kj2 t414 t415 t416 t417 t418 t420 _ A7.out).mono ?_); rintro e w15 ⟨v421, rfl, ho0, hb⟩; refine ⟨_, rfl, ?_⟩; have n0_ := Aside0.mk (Kd.R_lower ho0 (below_size (by repeat (first | (with_reducible first | exact HB.out | apply below_alloc | apply pw_below_drewN | apply below_drew1 | refine below_set ?_ GE419.out) | exact HB.out)))); have n1_ := Aside0.mk (blk_below (g := gb419) (o := .cells #[.int .i64 t414, .int .i64 t415, .int .i64 t416, .int .i64 t417, .int .i64 t418] 41 (0, 0)) (by refine blk_put (cs := #[.int .i64 t414, .int .i64 t415, .int .i64 t416, .int .i64 t417, .int .i64 0]) ?_ 4 _ rfl; refine blk_put (cs := #[.int .i64 t414, .int .i64 t415, .int .i64 t416, .int .i64 0, .int .i64 0]) ?_ 3 _ rfl; refine blk_put (cs := #[.int .i64 t414, .int .i64 t415, .int .i64 0, .int .i64 0, .int .i64 0]) ?_ 2 _ rfl; refine blk_put (cs := #[.int .i64 t414, .int .i64 0, .int .i64 0, .int .i64 0, .int .i64 0]) ?_ 1 _ rfl; refine blk_put (cs := #[.int .i64 0, .int .i64 0, .int .i64 0, .int .i64 0, .int .i64 0]) ?_ 0 _ rfl; exact BK419.out) hb); have n2_ := Aside0.mk (below_step (by repeat (first | (with_reducible first | exact HB.out | apply below_alloc | apply pw_below_drewN | apply below_drew1 | refine below_set ?_ GE419.out) | exact HB.out)) hb); clear BK419; clear HB; have HO422 := n0_; have BK419 := n1_; have HB := n2_; clear n0_ n1_ n2_; (try clear hb); (try clear hb2); (try clear hk); (try clear hi); (try clear ho0); have hcz16_0 : w15.cell? ⟨gb419, 0, none⟩ = some (.int .i64 t414) := (blk_cell BK419.out 0).trans rfl; have hcz16_1 : w15.cell? ⟨gb419, 1, none⟩ = some (.int .i64 t415) := (blk_cell BK419.out 1).trans rfl; have hcz16_2 : w15.cell? ⟨gb419, 2, none⟩ = some (.int .i64 t416) := (blk_cell BK419.out 2).trans rfl; have hcz16_3 : w15.cell? ⟨gb419, 3, none⟩ = some (.int .i64 t417) := (blk_cell BK419.out 3).trans rfl; have hcz16_4 : w15.cell? ⟨gb419, 4, none⟩ = some (.int .i64 t418) := (blk_cell BK419.out 4).trans rfl; have hfz16_0 := blk_frozen BK419.out 0; have hfz16_1 := blk_frozen BK419.out 1; have hfz16_2 := blk_frozen BK419.out 2; have hfz16_3 := blk_frozen BK419.out 3; have hfz16_4 := blk_frozen BK419.out 4) | ((with_reducible refine gate_callee (f := 33) rfl ?_); refine goesL_ (some 23) rfl rfl Try.func33 (by kernel_rfl) rfl #[.agg #[.int .i64 t414, .int .i64 t415, .int .i64 t416, .int .i64 t417, .int .i64 t418]] rfl (by (try simp only [List.map_toArray, List.map_cons, List.map_nil]); first | done | rfl | (simp only [List.length_drop, List.length_take]; rfl)) ?_; (with_reducible refine (impl_InsFault.calls kj2 t414 t415 t416 t417 t418 true _ A8.out).mono ?_); rintro e w17 ⟨rfl, hb⟩; refine ⟨_, rfl, ?_⟩; have n0_ := Aside0.mk (Kd.R_below (by exact HO422.out) hb); have n1_ := Aside0.mk (blk_below (g := gb419) (o := .cells #[.int .i64 t414, .int .i64 t415, .int .i64 t416, .int .i64 t417, .int .i64 t418] 41 (0, 0)) (by exact BK419.out) hb); have n2_ := Aside0.mk (below_step (by repeat (first | (with_reducible first | exact HB.out | apply below_alloc | apply pw_below_drewN | apply below_drew1 | refine below_set ?_ GE419.out) | exact HB.out)) hb); clear HO422; clear BK419; clear HB; have HO422 := n0_; have BK419 := n1_; have HB := n2_; clear n0_ n1_ n2_; (try clear hb); (try clear hb2); (try clear hk); (try clear hi); have hcz18_0 : w17.cell? ⟨gb419, 0, none⟩ = some (.int .i64 t414) := (blk_cell BK419.out 0).trans rfl; have hcz18_1 : w17.cell? ⟨gb419, 1, none⟩ = some (.int .i64 t415) := (blk_cell BK419.out 1).trans rfl; have hcz18_2 : w17.cell? ⟨gb419, 2, none⟩ = some (.int .i64 t416) := (blk_cell BK419.out 2).trans rfl; have hcz18_3 : w17.cell? ⟨gb419, 3, none⟩ = some (.int .i64 t417) := (blk_cell BK419.out 3).trans rfl; have hcz18_4 : w17.cell? ⟨gb419, 4, none⟩ = some (.int .i64 t418) := (blk_cell BK419.out 4).trans rfl; have hfz18_0 := blk_frozen BK419.out 0; have hfz18_1 := blk_frozen BK419.out 1; have hfz18_2 := blk_frozen BK419.out 2; have hfz18_3 := blk_frozen BK419.out 3; have hfz18_4 := blk_frozen BK419.out 4) | ((with_reducible refine gate_callee (f := 34) rfl ?_); refine goesL_ (some 25) rfl rfl Try.func34 (by kernel_rfl) rfl #[.agg #[.int .i64 t414, .int .i64 t415, .int .i64 t416, .int .i64 t417, .int .i64 t418]] rfl (by (try simp only [List.map_toArray, List.map_cons, List.map_nil]); first | done | rfl | (simp only [List.length_drop, List.length_take]; rfl)) ?_; (with_reducible refine (spec_InsFault.calls kj2 t414 t415 t416 t417 t418 true _ A10.out).mono ?_); rintro e w19 ⟨rfl, hb⟩; refine ⟨_, rfl, ?_⟩; have n0_ := Aside0.mk (Kd.R_below (by exact HO422.out) hb); have n1_ := Aside0.mk (blk_below (g := gb419) (o := .cells #[.int .i64 t414, .int .i64 t415, .int .i64 t416, .int .i64 t417, .int .i64 t418] 41 (0, 0)) (by exact BK419.out) hb); have n2_ := Aside0.mk (below_step (by repeat (first | (with_reducible first | exact HB.out | apply below_alloc | apply pw_below_drewN | apply below_drew1 | refine below_set ?_ GE419.out) | exact HB.out)) hb); clear HO422; clear BK419; clear HB; have HO422 := n0_; have BK419 := n1_; have HB := n2_; clear n0_ n1_ n2_; (try clear hb); (try clear hb2); (try clear hk); (try clear hi); obtain ⟨Ao20, co20, eo20⟩ := Kd.R_slice HO422.out; subst eo20))
      go_ret
      exact ⟨by first | rfl | (simp [*] <;> rfl), by repeat (first | (with_reducible first | exact HB.out | apply below_alloc | apply pw_below_drewN | apply below_drew1 | refine below_set ?_ GE419.out) | exact HB.out)⟩
     ·replace c11 := Bool.eq_false_iff.mpr c11
      subst c11
      rw [if_neg (show ¬ (false = true) by decide)] at H
      obtain rfl := Option.some.inj H
      exact absurd hlaw.out (by simp)
    ·replace c9 := Bool.eq_false_iff.mpr c9
     subst c9
     rw [if_neg (show ¬ (false = true) by decide)] at H
     replace H := Option.bind_eq_some_iff.mp H
     obtain ⟨⟨t425, t426, t427, t428, t429, t430⟩, A210, H⟩ := H
     replace H : (if (t420.length : Int) = 8 then (if t425 = true then (if (!(t426 == t414) || (!(t427 == t415) || (!(t428 == t416) || (!(t429 == t417) || (!(t430 == t418)))))) = true then (laws_FnIns.j1 kj2 l1 true) else (if 7 ≤ (t420.length : Int) then ((impl_DecodeIns.f kj2 (t420.take 7)).bind fun bt436 => (laws_FnIns.j1 kj2 l1 bt436.1)) else (none))) else (laws_FnIns.j1 kj2 l1 true)) else (laws_FnIns.j1 kj2 l1 true)) = some r := H
     have A21 := Aside0.mk A210
     clear A210
     have HC22 := Aside0.mk H
     clear H
     go_upto_region 8 with (first | ((with_reducible refine gate_callee (f := 32) rfl ?_); refine goesL_ (some 19) rfl rfl Try.func32 (by kernel_rfl) rfl #[.slice A0 l0.length c0] rfl (by (try simp only [List.map_toArray, List.map_cons, List.map_nil]); first | done | rfl | (simp only [List.length_drop, List.length_take]; rfl)) ?_; (with_reducible refine (spec_DrawInsFault.calls kj2 _ _ l0 t414 t415 t416 t417 t418 _ ?side1 ?side2 A6.out).mono ?_); (case side1 => repeat (first | exact (Kd.C_below HR0.out HB.out) | (with_reducible refine Kd.C_alloc ?_ _) | (with_reducible refine Kd.C_drewN ?_ _) | (with_reducible refine Kd.C_drew ?_))); (case side2 => exact HC0.out); rintro e w23 ⟨rfl, hb⟩; refine ⟨_, rfl, ?_⟩; have n0_ := Aside0.mk (below_step (by repeat (first | (with_reducible first | exact HB.out | apply below_alloc | apply pw_below_drewN | apply below_drew1) | exact HB.out)) hb); clear HB; have HB := n0_; clear n0_; (try clear hb); (try clear hb2); (try clear hk); (try clear hi)) | ((with_reducible refine gate_dst (N := 5) rfl ?_); (try (refine gate_guard (by rfl) ?_; dsimp only)); refine box_event ?hg (N := 5) ?hd (cs := #[.int .i64 0, .int .i64 0, .int .i64 0, .int .i64 0, .int .i64 0]) (t := 41) ?hr ?_; (case hd => rfl); (case hg => rfl); (case hr => first | (go_simp; done) | (go_simp; rfl)); intro gb419 hg w24 hbox hb; have n0_ := Aside0.mk (below_step (by repeat (first | (with_reducible first | exact HB.out | apply below_alloc | apply pw_below_drewN | apply below_drew1) | exact HB.out)) hb); have n1_ := Aside0.mk (hbox); have n2_ := Aside0.mk ((by rw [hg]; exact (below_size (by repeat (first | (with_reducible first | exact HB.out | apply below_alloc | apply pw_below_drewN | apply below_drew1) | exact HB.out))) : w.heap.size ≤ gb419)); have n3_ := Aside0.mk ((by rw [hg]; exact (below_size (by repeat (first | (with_reducible first | exact HB.out | apply below_alloc | apply pw_below_drewN | apply below_drew1) | exact HB.out))) : w.heap.size ≤ gb419)); clear HB; have HB := n0_; have BK419 := n1_; have GW419 := n2_; have GE419 := n3_; clear n0_ n1_ n2_ n3_; clear hb hbox hg; have hcz25_0 : w24.cell? ⟨gb419, 0, none⟩ = some (.int .i64 0) := (blk_cell BK419.out 0).trans rfl; have hcz25_1 : w24.cell? ⟨gb419, 1, none⟩ = some (.int .i64 0) := (blk_cell BK419.out 1).trans rfl; have hcz25_2 : w24.cell? ⟨gb419, 2, none⟩ = some (.int .i64 0) := (blk_cell BK419.out 2).trans rfl; have hcz25_3 : w24.cell? ⟨gb419, 3, none⟩ = some (.int .i64 0) := (blk_cell BK419.out 3).trans rfl; have hcz25_4 : w24.cell? ⟨gb419, 4, none⟩ = some (.int .i64 0) := (blk_cell BK419.out 4).trans rfl; have hfz25_0 := blk_frozen BK419.out 0; have hfz25_1 := blk_frozen BK419.out 1; have hfz25_2 := blk_frozen BK419.out 2; have hfz25_3 := blk_frozen BK419.out 3; have hfz25_4 := blk_frozen BK419.out 4) | ((with_reducible refine gate_callee (f := 22) rfl ?_); refine goesL_ (some 21) rfl rfl Try.func22 (by kernel_rfl) rfl #[.agg #[.int .i64 t414, .int .i64 t415, .int .i64 t416, .int .i64 t417, .int .i64 t418]] rfl (by (try simp only [List.map_toArray, List.map_cons, List.map_nil]); first | done | rfl | (simp only [List.length_drop, List.length_take]; rfl)) ?_; (with_reducible refine (impl_EncodeIns.calls kj2 t414 t415 t416 t417 t418 t420 _ A7.out).mono ?_); rintro e w26 ⟨v421, rfl, ho0, hb⟩; refine ⟨_, rfl, ?_⟩; have n0_ := Aside0.mk (Kd.R_lower ho0 (below_size (by repeat (first | (with_reducible first | exact HB.out | apply below_alloc | apply pw_below_drewN | apply below_drew1 | refine below_set ?_ GE419.out) | exact HB.out)))); have n1_ := Aside0.mk (blk_below (g := gb419) (o := .cells #[.int .i64 t414, .int .i64 t415, .int .i64 t416, .int .i64 t417, .int .i64 t418] 41 (0, 0)) (by refine blk_put (cs := #[.int .i64 t414, .int .i64 t415, .int .i64 t416, .int .i64 t417, .int .i64 0]) ?_ 4 _ rfl; refine blk_put (cs := #[.int .i64 t414, .int .i64 t415, .int .i64 t416, .int .i64 0, .int .i64 0]) ?_ 3 _ rfl; refine blk_put (cs := #[.int .i64 t414, .int .i64 t415, .int .i64 0, .int .i64 0, .int .i64 0]) ?_ 2 _ rfl; refine blk_put (cs := #[.int .i64 t414, .int .i64 0, .int .i64 0, .int .i64 0, .int .i64 0]) ?_ 1 _ rfl; refine blk_put (cs := #[.int .i64 0, .int .i64 0, .int .i64 0, .int .i64 0, .int .i64 0]) ?_ 0 _ rfl; exact BK419.out) hb); have n2_ := Aside0.mk (below_step (by repeat (first | (with_reducible first | exact HB.out | apply below_alloc | apply pw_below_drewN | apply below_drew1 | refine below_set ?_ GE419.out) | exact HB.out)) hb); clear BK419; clear HB; have HO422 := n0_; have BK419 := n1_; have HB := n2_; clear n0_ n1_ n2_; (try clear hb); (try clear hb2); (try clear hk); (try clear hi); (try clear ho0); have hcz27_0 : w26.cell? ⟨gb419, 0, none⟩ = some (.int .i64 t414) := (blk_cell BK419.out 0).trans rfl; have hcz27_1 : w26.cell? ⟨gb419, 1, none⟩ = some (.int .i64 t415) := (blk_cell BK419.out 1).trans rfl; have hcz27_2 : w26.cell? ⟨gb419, 2, none⟩ = some (.int .i64 t416) := (blk_cell BK419.out 2).trans rfl; have hcz27_3 : w26.cell? ⟨gb419, 3, none⟩ = some (.int .i64 t417) := (blk_cell BK419.out 3).trans rfl; have hcz27_4 : w26.cell? ⟨gb419, 4, none⟩ = some (.int .i64 t418) := (blk_cell BK419.out 4).trans rfl; have hfz27_0 := blk_frozen BK419.out 0; have hfz27_1 := blk_frozen BK419.out 1; have hfz27_2 := blk_frozen BK419.out 2; have hfz27_3 := blk_frozen BK419.out 3; have hfz27_4 := blk_frozen BK419.out 4) | ((with_reducible refine gate_callee (f := 33) rfl ?_); refine goesL_ (some 23) rfl rfl Try.func33 (by kernel_rfl) rfl #[.agg #[.int .i64 t414, .int .i64 t415, .int .i64 t416, .int .i64 t417, .int .i64 t418]] rfl (by (try simp only [List.map_toArray, List.map_cons, List.map_nil]); first | done | rfl | (simp only [List.length_drop, List.length_take]; rfl)) ?_; (with_reducible refine (impl_InsFault.calls kj2 t414 t415 t416 t417 t418 false _ A8.out).mono ?_); rintro e w28 ⟨rfl, hb⟩; refine ⟨_, rfl, ?_⟩; have n0_ := Aside0.mk (Kd.R_below (by exact HO422.out) hb); have n1_ := Aside0.mk (blk_below (g := gb419) (o := .cells #[.int .i64 t414, .int .i64 t415, .int .i64 t416, .int .i64 t417, .int .i64 t418] 41 (0, 0)) (by exact BK419.out) hb); have n2_ := Aside0.mk (below_step (by repeat (first | (with_reducible first | exact HB.out | apply below_alloc | apply pw_below_drewN | apply below_drew1 | refine below_set ?_ GE419.out) | exact HB.out)) hb); clear HO422; clear BK419; clear HB; have HO422 := n0_; have BK419 := n1_; have HB := n2_; clear n0_ n1_ n2_; (try clear hb); (try clear hb2); (try clear hk); (try clear hi); obtain ⟨Ao29, co29, eo29⟩ := Kd.R_slice HO422.out; subst eo29) | ((with_reducible refine gate_callee (f := 30) rfl ?_); refine goesL_ (some 32) rfl rfl Try.func30 (by kernel_rfl) rfl #[.slice Ao29 t420.length co29] rfl (by (try simp only [List.map_toArray, List.map_cons, List.map_nil]); first | done | rfl | (simp only [List.length_drop, List.length_take]; rfl)) ?_; (with_reducible refine (impl_DecodeIns.calls kj2 _ _ t420 t425 t426 t427 t428 t429 t430 _ ?side1 ?side2 A21.out).mono ?_); (case side1 => repeat (first | exact (Kd.R_reads' HO422.out).2.2 | (with_reducible refine Kd.C_alloc ?_ _) | (with_reducible refine Kd.C_drewN ?_ _) | (with_reducible refine Kd.C_drew ?_))); (case side2 => exact (Kd.R_reads' HO422.out).2.1); rintro e w30 ⟨rfl, hb⟩; refine ⟨_, rfl, ?_⟩; have n0_ := Aside0.mk (Kd.R_below (by exact HO422.out) hb); have n1_ := Aside0.mk (blk_below (g := gb419) (o := .cells #[.int .i64 t414, .int .i64 t415, .int .i64 t416, .int .i64 t417, .int .i64 t418] 41 (0, 0)) (by exact BK419.out) hb); have n2_ := Aside0.mk (below_step (by repeat (first | (with_reducible first | exact HB.out | apply below_alloc | apply pw_below_drewN | apply below_drew1 | refine below_set ?_ GE419.out) | exact HB.out)) hb); clear HO422; clear BK419; clear HB; have HO422 := n0_; have BK419 := n1_; have HB := n2_; clear n0_ n1_ n2_; (try clear hb); (try clear hb2); (try clear hk); (try clear hi)) | ((with_reducible refine gate_dst (N := 7) rfl ?_); (try (refine gate_guard (by rfl) ?_; dsimp only)); refine box_event ?hg (N := 7) ?hd (cs := #[.bool false, .int .i64 0, .int .i64 0, .int .i64 0, .int .i64 0, .int .i64 0]) (t := 47) ?hr ?_; (case hd => rfl); (case hg => rfl); (case hr => first | (go_simp; done) | (go_simp; rfl)); intro gb431 hg w31 hbox hb; have n0_ := Aside0.mk (Kd.R_below (by exact HO422.out) hb); have n1_ := Aside0.mk (blk_below (g := gb419) (o := .cells #[.int .i64 t414, .int .i64 t415, .int .i64 t416, .int .i64 t417, .int .i64 t418] 41 (0, 0)) (by exact BK419.out) hb); have n2_ := Aside0.mk (below_step (by repeat (first | (with_reducible first | exact HB.out | apply below_alloc | apply pw_below_drewN | apply below_drew1 | refine below_set ?_ GE419.out) | exact HB.out)) hb); have n3_ := Aside0.mk (hbox); have n4_ := Aside0.mk ((by rw [hg]; exact (below_size (by repeat (first | (with_reducible first | exact HB.out | apply below_alloc | apply pw_below_drewN | apply below_drew1 | refine below_set ?_ GE419.out) | exact HB.out))) : w.heap.size ≤ gb431)); have n5_ := Aside0.mk ((by rw [hg]; exact (below_size (by repeat (first | (with_reducible first | exact HB.out | apply below_alloc | apply pw_below_drewN | apply below_drew1 | refine below_set ?_ GE419.out) | exact HB.out))) : w.heap.size ≤ gb431)); have n6_ := Aside0.mk ((by rw [hg]; exact Nat.ne_of_lt (blk_lt (g := gb419) (o := .cells #[.int .i64 t414, .int .i64 t415, .int .i64 t416, .int .i64 t417, .int .i64 t418] 41 (0, 0)) (by exact BK419.out)) : gb419 ≠ gb431)); have n7_ := Aside0.mk ((by rw [hg]; exact Nat.ne_of_gt (blk_lt (g := gb419) (o := .cells #[.int .i64 t414, .int .i64 t415, .int .i64 t416, .int .i64 t417, .int .i64 t418] 41 (0, 0)) (by exact BK419.out)) : gb431 ≠ gb419)); clear HO422; clear BK419; clear HB; have HO422 := n0_; have BK419 := n1_; have HB := n2_; have BK431 := n3_; have GW431 := n4_; have GE431 := n5_; have NB419_431 := n6_; have NB431_419 := n7_; clear n0_ n1_ n2_ n3_ n4_ n5_ n6_ n7_; clear hb hbox hg; have hnb32 := NB431_419.out; have hnc32 := NB419_431.out; have hcz33_0 : w31.cell? ⟨gb431, 0, none⟩ = some (.bool false) := (blk_cell BK431.out 0).trans rfl; have hcz33_1 : w31.cell? ⟨gb431, 1, none⟩ = some (.int .i64 0) := (blk_cell BK431.out 1).trans rfl; have hcz33_2 : w31.cell? ⟨gb431, 2, none⟩ = some (.int .i64 0) := (blk_cell BK431.out 2).trans rfl; have hcz33_3 : w31.cell? ⟨gb431, 3, none⟩ = some (.int .i64 0) := (blk_cell BK431.out 3).trans rfl; have hcz33_4 : w31.cell? ⟨gb431, 4, none⟩ = some (.int .i64 0) := (blk_cell BK431.out 4).trans rfl; have hcz33_5 : w31.cell? ⟨gb431, 5, none⟩ = some (.int .i64 0) := (blk_cell BK431.out 5).trans rfl; have hfz33_0 := blk_frozen BK431.out 0; have hfz33_1 := blk_frozen BK431.out 1; have hfz33_2 := blk_frozen BK431.out 2; have hfz33_3 := blk_frozen BK431.out 3; have hfz33_4 := blk_frozen BK431.out 4; have hfz33_5 := blk_frozen BK431.out 5))
     (try simp only [Act.put, List.setIfInBounds_toArray, List.set_cons_zero, List.set_cons_succ])
     go_cut [52] (fun v52 wc => ∃ (kq : Nat) (x52_21 : Bool), v52 = .bool x52_21 ∧ Aside0 (laws_FnIns.j1 kq l1 x52_21 = some r) ∧ Aside0 (kq ≤ kj2) ∧ Aside0 (wc.heap[gb419]? = some (.cells #[.int .i64 t414, .int .i64 t415, .int .i64 t416, .int .i64 t417, .int .i64 t418] 41 (0, 0))) ∧ Aside0 (wc.heap[gb431]? = some (.cells #[.bool t425, .int .i64 t426, .int .i64 t427, .int .i64 t428, .int .i64 t429, .int .i64 t430] 47 (0, 0))) ∧ Aside0 (Below w.heap.size w wc))
     case first =>
      have H := HC22.out
      clear HC22
      by_cases c34 : (t420.length : Int) = 8
      ·rw [if_pos c34] at H
       have c34b0 : ((t420.length : Int) == 8) = true := beq_iff_eq.mpr c34
       have c34b1 : ((t420.length : Int) != 8) = false := bne_eq_false_iff_eq.mpr c34
       clear c34
       (first | rw [c34b0] | (simp only [i64_w, i32_w]; rw [c34b0]) | skip)
       by_cases c35 : t425 = true
       ·subst c35
        rw [if_pos rfl] at H
        by_cases c36 : (!(t426 == t414) || (!(t427 == t415) || (!(t428 == t416) || (!(t429 == t417) || (!(t430 == t418)))))) = true
        ·rw [if_pos c36] at H
         have c36b0 : (!(t426 == t414) || (!(t427 == t415) || (!(t428 == t416) || (!(t429 == t417) || (!(t430 == t418)))))) = true := c36
         clear c36
         have H' := Aside0.mk H
         clear H
         have hnb37 := NB431_419.out
         have hnc37 := NB419_431.out
         have hcz38_0 : w31.cell? ⟨gb431, 0, none⟩ = some (.bool false) := (blk_cell BK431.out 0).trans rfl
         have hcz38_1 : w31.cell? ⟨gb431, 1, none⟩ = some (.int .i64 0) := (blk_cell BK431.out 1).trans rfl
         have hcz38_2 : w31.cell? ⟨gb431, 2, none⟩ = some (.int .i64 0) := (blk_cell BK431.out 2).trans rfl
         have hcz38_3 : w31.cell? ⟨gb431, 3, none⟩ = some (.int .i64 0) := (blk_cell BK431.out 3).trans rfl
         have hcz38_4 : w31.cell? ⟨gb431, 4, none⟩ = some (.int .i64 0) := (blk_cell BK431.out 4).trans rfl
         have hcz38_5 : w31.cell? ⟨gb431, 5, none⟩ = some (.int .i64 0) := (blk_cell BK431.out 5).trans rfl
         have hfz38_0 := blk_frozen BK431.out 0
         have hfz38_1 := blk_frozen BK431.out 1
         have hfz38_2 := blk_frozen BK431.out 2
         have hfz38_3 := blk_frozen BK431.out 3
         have hfz38_4 := blk_frozen BK431.out 4
         have hfz38_5 := blk_frozen BK431.out 5
         have hcz39_0 : w31.cell? ⟨gb419, 0, none⟩ = some (.int .i64 t414) := (blk_cell BK419.out 0).trans rfl
         have hcz39_1 : w31.cell? ⟨gb419, 1, none⟩ = some (.int .i64 t415) := (blk_cell BK419.out 1).trans rfl
         have hcz39_2 : w31.cell? ⟨gb419, 2, none⟩ = some (.int .i64 t416) := (blk_cell BK419.out 2).trans rfl
         have hcz39_3 : w31.cell? ⟨gb419, 3, none⟩ = some (.int .i64 t417) := (blk_cell BK419.out 3).trans rfl
         have hcz39_4 : w31.cell? ⟨gb419, 4, none⟩ = some (.int .i64 t418) := (blk_cell BK419.out 4).trans rfl
         have hfz39_0 := blk_frozen BK419.out 0
         have hfz39_1 := blk_frozen BK419.out 1
         have hfz39_2 := blk_frozen BK419.out 2
         have hfz39_3 := blk_frozen BK419.out 3
         have hfz39_4 := blk_frozen BK419.out 4
         go_wp2
         go_meet
         case rel => exact ⟨_, (true), (by first | rfl | (simp; done) | (simp [*]; done)), H', ⟨by have := HJ2.out; first | omega | exact Nat.le_refl _⟩, ⟨by refine blk_far ?_ NB419_431.out _; refine blk_far ?_ NB419_431.out _; refine blk_far ?_ NB419_431.out _; refine blk_far ?_ NB419_431.out _; refine blk_far ?_ NB419_431.out _; refine blk_far ?_ NB419_431.out _; exact BK419.out⟩, ⟨by refine blk_put (cs := #[.bool true, .int .i64 t426, .int .i64 t427, .int .i64 t428, .int .i64 t429, .int .i64 0]) ?_ 5 _ rfl; refine blk_put (cs := #[.bool true, .int .i64 t426, .int .i64 t427, .int .i64 t428, .int .i64 0, .int .i64 0]) ?_ 4 _ rfl; refine blk_put (cs := #[.bool true, .int .i64 t426, .int .i64 t427, .int .i64 0, .int .i64 0, .int .i64 0]) ?_ 3 _ rfl; refine blk_put (cs := #[.bool true, .int .i64 t426, .int .i64 0, .int .i64 0, .int .i64 0, .int .i64 0]) ?_ 2 _ rfl; refine blk_put (cs := #[.bool true, .int .i64 0, .int .i64 0, .int .i64 0, .int .i64 0, .int .i64 0]) ?_ 1 _ rfl; refine blk_put (cs := #[.bool false, .int .i64 0, .int .i64 0, .int .i64 0, .int .i64 0, .int .i64 0]) ?_ 0 _ rfl; exact BK431.out⟩, ⟨by repeat (first | (with_reducible first | exact HB.out | apply below_alloc | apply pw_below_drewN | apply below_drew1 | refine below_set ?_ GE419.out | refine below_set ?_ GE431.out) | exact HB.out)⟩⟩
        ·rw [if_neg c36] at H
         have c36b0 : (!(t426 == t414) || (!(t427 == t415) || (!(t428 == t416) || (!(t429 == t417) || (!(t430 == t418)))))) = false := by simpa using c36
         clear c36
         by_cases c40 : 7 ≤ (t420.length : Int)
         ·rw [if_pos c40] at H
          have c40b0 := eq_true c40
          have c40b1 : decide (7 ≤ (t420.length : Int)) = true := decide_eq_true c40
          clear c40
          obtain ⟨y432, hy432⟩ : ∃ y_ : List Int, y_ = (t420.take 7) := ⟨_, rfl⟩
          replace H : ((impl_DecodeIns.f kj2 y432).bind fun bt436 => (laws_FnIns.j1 kj2 l1 bt436.1)) = some r := by first | (rw [hy432]; with_reducible exact H) | (have H2_ := (Option.bind_some _ _).symm.trans H; rw [hy432]; with_reducible exact H2_) | (have H2_ := (Option.bind_some _ _).symm.trans H; with_reducible exact H2_) | with_reducible exact H | (rw [hy432]; exact H) | exact H
          have Ny432 := Aside0.mk hy432
          clear hy432
          replace H := Option.bind_eq_some_iff.mp H
          obtain ⟨⟨t436, t437, t438, t439, t440, t441⟩, A410, H⟩ := H
          replace H : (laws_FnIns.j1 kj2 l1 t436) = some r := H
          have A41 := Aside0.mk A410
          clear A410
          have H' := Aside0.mk H
          clear H
          have hnb42 := NB431_419.out
          have hnc42 := NB419_431.out
          have hcz43_0 : w31.cell? ⟨gb431, 0, none⟩ = some (.bool false) := (blk_cell BK431.out 0).trans rfl
          have hcz43_1 : w31.cell? ⟨gb431, 1, none⟩ = some (.int .i64 0) := (blk_cell BK431.out 1).trans rfl
          have hcz43_2 : w31.cell? ⟨gb431, 2, none⟩ = some (.int .i64 0) := (blk_cell BK431.out 2).trans rfl
          have hcz43_3 : w31.cell? ⟨gb431, 3, none⟩ = some (.int .i64 0) := (blk_cell BK431.out 3).trans rfl
          have hcz43_4 : w31.cell? ⟨gb431, 4, none⟩ = some (.int .i64 0) := (blk_cell BK431.out 4).trans rfl
          have hcz43_5 : w31.cell? ⟨gb431, 5, none⟩ = some (.int .i64 0) := (blk_cell BK431.out 5).trans rfl
          have hfz43_0 := blk_frozen BK431.out 0
          have hfz43_1 := blk_frozen BK431.out 1
          have hfz43_2 := blk_frozen BK431.out 2
          have hfz43_3 := blk_frozen BK431.out 3
          have hfz43_4 := blk_frozen BK431.out 4
          have hfz43_5 := blk_frozen BK431.out 5
          have hcz44_0 : w31.cell? ⟨gb419, 0, none⟩ = some (.int .i64 t414) := (blk_cell BK419.out 0).trans rfl
          have hcz44_1 : w31.cell? ⟨gb419, 1, none⟩ = some (.int .i64 t415) := (blk_cell BK419.out 1).trans rfl
          have hcz44_2 : w31.cell? ⟨gb419, 2, none⟩ = some (.int .i64 t416) := (blk_cell BK419.out 2).trans rfl
          have hcz44_3 : w31.cell? ⟨gb419, 3, none⟩ = some (.int .i64 t417) := (blk_cell BK419.out 3).trans rfl
          have hcz44_4 : w31.cell? ⟨gb419, 4, none⟩ = some (.int .i64 t418) := (blk_cell BK419.out 4).trans rfl
          have hfz44_0 := blk_frozen BK419.out 0
          have hfz44_1 := blk_frozen BK419.out 1
          have hfz44_2 := blk_frozen BK419.out 2
          have hfz44_3 := blk_frozen BK419.out 3
          have hfz44_4 := blk_frozen BK419.out 4
          have n0_ : Aside0 (Kd.R (Kd.int .u8) 5 ((((((w31.setCell ⟨gb431, 0, none⟩ (.bool true)).setCell ⟨gb431, 1, none⟩ (.int .i64 t426)).setCell ⟨gb431, 2, none⟩ (.int .i64 t427)).setCell ⟨gb431, 3, none⟩ (.int .i64 t428)).setCell ⟨gb431, 4, none⟩ (.int .i64 t429)).setCell ⟨gb431, 5, none⟩ (.int .i64 t430)) w.heap.size (fun _ => True) (.slice Ao29 t420.length co29) t420) := ⟨by exact Kd.R_mono (Kd.R_far (p := ⟨gb431, 5, none⟩) (Kd.R_far (p := ⟨gb431, 4, none⟩) (Kd.R_far (p := ⟨gb431, 3, none⟩) (Kd.R_far (p := ⟨gb431, 2, none⟩) (Kd.R_far (p := ⟨gb431, 1, none⟩) (Kd.R_far (p := ⟨gb431, 0, none⟩) (Kd.R_types HO422.out BK431.out (by decide)) (fun _ hk => hk.2) (.bool true)) (fun _ hk => hk.2) (.int .i64 t426)) (fun _ hk => hk.2) (.int .i64 t427)) (fun _ hk => hk.2) (.int .i64 t428)) (fun _ hk => hk.2) (.int .i64 t429)) (fun _ hk => hk.2) (.int .i64 t430)) (fun _ hk => trivial)⟩
          have n1_ : Aside0 (((((((w31.setCell ⟨gb431, 0, none⟩ (.bool true)).setCell ⟨gb431, 1, none⟩ (.int .i64 t426)).setCell ⟨gb431, 2, none⟩ (.int .i64 t427)).setCell ⟨gb431, 3, none⟩ (.int .i64 t428)).setCell ⟨gb431, 4, none⟩ (.int .i64 t429)).setCell ⟨gb431, 5, none⟩ (.int .i64 t430)).heap[gb419]? = some (.cells #[.int .i64 t414, .int .i64 t415, .int .i64 t416, .int .i64 t417, .int .i64 t418] 41 (0, 0))) := ⟨by refine blk_far ?_ NB419_431.out _; refine blk_far ?_ NB419_431.out _; refine blk_far ?_ NB419_431.out _; refine blk_far ?_ NB419_431.out _; refine blk_far ?_ NB419_431.out _; refine blk_far ?_ NB419_431.out _; exact BK419.out⟩
          have n2_ : Aside0 (((((((w31.setCell ⟨gb431, 0, none⟩ (.bool true)).setCell ⟨gb431, 1, none⟩ (.int .i64 t426)).setCell ⟨gb431, 2, none⟩ (.int .i64 t427)).setCell ⟨gb431, 3, none⟩ (.int .i64 t428)).setCell ⟨gb431, 4, none⟩ (.int .i64 t429)).setCell ⟨gb431, 5, none⟩ (.int .i64 t430)).heap[gb431]? = some (.cells #[.bool true, .int .i64 t426, .int .i64 t427, .int .i64 t428, .int .i64 t429, .int .i64 t430] 47 (0, 0))) := ⟨by refine blk_put (cs := #[.bool true, .int .i64 t426, .int .i64 t427, .int .i64 t428, .int .i64 t429, .int .i64 0]) ?_ 5 _ rfl; refine blk_put (cs := #[.bool true, .int .i64 t426, .int .i64 t427, .int .i64 t428, .int .i64 0, .int .i64 0]) ?_ 4 _ rfl; refine blk_put (cs := #[.bool true, .int .i64 t426, .int .i64 t427, .int .i64 0, .int .i64 0, .int .i64 0]) ?_ 3 _ rfl; refine blk_put (cs := #[.bool true, .int .i64 t426, .int .i64 0, .int .i64 0, .int .i64 0, .int .i64 0]) ?_ 2 _ rfl; refine blk_put (cs := #[.bool true, .int .i64 0, .int .i64 0, .int .i64 0, .int .i64 0, .int .i64 0]) ?_ 1 _ rfl; refine blk_put (cs := #[.bool false, .int .i64 0, .int .i64 0, .int .i64 0, .int .i64 0, .int .i64 0]) ?_ 0 _ rfl; exact BK431.out⟩
          have n3_ : Aside0 (Below w.heap.size w ((((((w31.setCell ⟨gb431, 0, none⟩ (.bool true)).setCell ⟨gb431, 1, none⟩ (.int .i64 t426)).setCell ⟨gb431, 2, none⟩ (.int .i64 t427)).setCell ⟨gb431, 3, none⟩ (.int .i64 t428)).setCell ⟨gb431, 4, none⟩ (.int .i64 t429)).setCell ⟨gb431, 5, none⟩ (.int .i64 t430))) := ⟨by repeat (first | (with_reducible first | exact HB.out | apply below_alloc | apply pw_below_drewN | apply below_drew1 | refine below_set ?_ GE419.out | refine below_set ?_ GE431.out) | exact HB.out)⟩
          (try clear HO422)
          (try clear BK419)
          (try clear BK431)
          (try clear HB)
          generalize ((((((w31.setCell ⟨gb431, 0, none⟩ (.bool true)).setCell ⟨gb431, 1, none⟩ (.int .i64 t426)).setCell ⟨gb431, 2, none⟩ (.int .i64 t427)).setCell ⟨gb431, 3, none⟩ (.int .i64 t428)).setCell ⟨gb431, 4, none⟩ (.int .i64 t429)).setCell ⟨gb431, 5, none⟩ (.int .i64 t430)) = w46 at n0_ n1_ n2_ n3_ ⊢
          have HO422 := n0_
          have BK419 := n1_
          have BK431 := n2_
          have HB := n3_
          clear n0_ n1_ n2_ n3_
          have hcq1_0 : w46.cell? ⟨gb431, 0, none⟩ = some (.bool true) := (blk_cell BK431.out 0).trans rfl
          have hcq1_1 : w46.cell? ⟨gb431, 1, none⟩ = some (.int .i64 t426) := (blk_cell BK431.out 1).trans rfl
          have hcq1_2 : w46.cell? ⟨gb431, 2, none⟩ = some (.int .i64 t427) := (blk_cell BK431.out 2).trans rfl
          have hcq1_3 : w46.cell? ⟨gb431, 3, none⟩ = some (.int .i64 t428) := (blk_cell BK431.out 3).trans rfl
          have hcq1_4 : w46.cell? ⟨gb431, 4, none⟩ = some (.int .i64 t429) := (blk_cell BK431.out 4).trans rfl
          have hcq1_5 : w46.cell? ⟨gb431, 5, none⟩ = some (.int .i64 t430) := (blk_cell BK431.out 5).trans rfl
          have hcq2_0 : w46.cell? ⟨gb419, 0, none⟩ = some (.int .i64 t414) := (blk_cell BK419.out 0).trans rfl
          have hcq2_1 : w46.cell? ⟨gb419, 1, none⟩ = some (.int .i64 t415) := (blk_cell BK419.out 1).trans rfl
          have hcq2_2 : w46.cell? ⟨gb419, 2, none⟩ = some (.int .i64 t416) := (blk_cell BK419.out 2).trans rfl
          have hcq2_3 : w46.cell? ⟨gb419, 3, none⟩ = some (.int .i64 t417) := (blk_cell BK419.out 3).trans rfl
          have hcq2_4 : w46.cell? ⟨gb419, 4, none⟩ = some (.int .i64 t418) := (blk_cell BK419.out 4).trans rfl
          have hfdq_ : ∀ w_ : World, (Instr.field 47 (.agg #[.bool t436, .int .i64 t437, .int .i64 t438, .int .i64 t439, .int .i64 t440, .int .i64 t441]) 0).run Try.prog w_ = .ok (.bool t436) w_ := fun _ => by kernel_rfl
          have q45 : (7 : Int) ≤ ((t420.length : Int) : Int) := of_decide_eq_true (by first | (with_reducible assumption) | assumption)
          obtain ⟨i045, hi045, _, hsz45, _⟩ := info_parts info5
          have hroom45 : t420.length ≤ co29 := (Kd.R_reads' HO422.out).2.1
          have hC45 : Kd.C (Kd.int .u8) _ Ao29 t420.length t420 := (Kd.R_reads' HO422.out).2.2
          have hcut45 := cut_to (P := Try.prog) 22 5 .i64 Try.underlying22 hi045 Ao29 t420.length co29 7 (by omega) q45 hroom45
          have hr45 := Kd.C_take (m := 7) hC45 (by omega)
          have hy45 : y432.length = (7 : Int).toNat := (by rw [Ny432.out, List.length_take]; omega)
          rw [← Ny432.out] at hr45
          rw [← hy45] at hcut45
          have HR435 := Aside0.mk hr45
          have HC435 := Aside0.mk (show y432.length ≤ co29 from by omega)
          clear hr45 hC45 hroom45 hi045 hsz45
          have KY45 := Aside0.mk hy45
          clear hy45
          have KL45 := Aside0.mk (show 7 ≤ t420.length from by omega)
          replace q45 := eq_true q45
          go_wp2_with (first | (go_at_call 30; (with_reducible refine (impl_DecodeIns.calls kj2 _ _ y432 t436 t437 t438 t439 t440 t441 _ ?side1 ?side2 A41.out).mono ?_); (case side1 => repeat (first | exact (by repeat (first | (with_reducible exact HR435.out) | (with_reducible refine Kd.C_alloc ?_ _) | (with_reducible refine Kd.C_drewN ?_ _) | (with_reducible refine Kd.C_drew ?_) | exact HR435.out)) | (with_reducible refine Kd.C_alloc ?_ _) | (with_reducible refine Kd.C_drewN ?_ _) | (with_reducible refine Kd.C_drew ?_))); (case side2 => exact HC435.out); rintro e w47 ⟨rfl, hb⟩; have n0_ := Aside0.mk (Kd.R_below (by exact HO422.out) hb); have n1_ := Aside0.mk (blk_below (g := gb419) (o := .cells #[.int .i64 t414, .int .i64 t415, .int .i64 t416, .int .i64 t417, .int .i64 t418] 41 (0, 0)) (by exact BK419.out) hb); have n2_ := Aside0.mk (blk_below (g := gb431) (o := .cells #[.bool true, .int .i64 t426, .int .i64 t427, .int .i64 t428, .int .i64 t429, .int .i64 t430] 47 (0, 0)) (by exact BK431.out) hb); have n3_ := Aside0.mk (Kd.C_below (by repeat (first | (with_reducible exact HR435.out) | (with_reducible refine Kd.C_alloc ?_ _) | (with_reducible refine Kd.C_drewN ?_ _) | (with_reducible refine Kd.C_drew ?_) | exact HR435.out)) hb); have n4_ := Aside0.mk (below_step (by repeat (first | (with_reducible first | exact HB.out | apply below_alloc | apply pw_below_drewN | apply below_drew1 | refine below_set ?_ GE419.out | refine below_set ?_ GE431.out) | exact HB.out)) hb); clear HO422; clear BK419; clear BK431; clear HR435; clear HB; have HO422 := n0_; have BK419 := n1_; have BK431 := n2_; have HR435 := n3_; have HB := n4_; clear n0_ n1_ n2_ n3_ n4_; (try clear hb); (try clear hb2); (try clear hk); (try clear hi)))
          go_meet
          case rel => exact ⟨_, (t436), (by first | rfl | (simp; done) | (simp [*]; done)), H', ⟨by have := HJ2.out; first | omega | exact Nat.le_refl _⟩, ⟨by exact BK419.out⟩, ⟨by exact BK431.out⟩, ⟨by repeat (first | (with_reducible first | exact HB.out | apply below_alloc | apply pw_below_drewN | apply below_drew1 | refine below_set ?_ GE419.out | refine below_set ?_ GE431.out) | exact HB.out)⟩⟩
         ·rw [if_neg c40] at H
          exact absurd H (by simp)
       ·replace c35 := Bool.eq_false_iff.mpr c35
        subst c35
        rw [if_neg (show ¬ (false = true) by decide)] at H
        have H' := Aside0.mk H
        clear H
        have hnb48 := NB431_419.out
        have hnc48 := NB419_431.out
        have hcz49_0 : w31.cell? ⟨gb431, 0, none⟩ = some (.bool false) := (blk_cell BK431.out 0).trans rfl
        have hcz49_1 : w31.cell? ⟨gb431, 1, none⟩ = some (.int .i64 0) := (blk_cell BK431.out 1).trans rfl
        have hcz49_2 : w31.cell? ⟨gb431, 2, none⟩ = some (.int .i64 0) := (blk_cell BK431.out 2).trans rfl
        have hcz49_3 : w31.cell? ⟨gb431, 3, none⟩ = some (.int .i64 0) := (blk_cell BK431.out 3).trans rfl
        have hcz49_4 : w31.cell? ⟨gb431, 4, none⟩ = some (.int .i64 0) := (blk_cell BK431.out 4).trans rfl
        have hcz49_5 : w31.cell? ⟨gb431, 5, none⟩ = some (.int .i64 0) := (blk_cell BK431.out 5).trans rfl
        have hfz49_0 := blk_frozen BK431.out 0
        have hfz49_1 := blk_frozen BK431.out 1
        have hfz49_2 := blk_frozen BK431.out 2
        have hfz49_3 := blk_frozen BK431.out 3
        have hfz49_4 := blk_frozen BK431.out 4
        have hfz49_5 := blk_frozen BK431.out 5
        go_wp2
        go_meet
        case rel => exact ⟨_, (true), (by first | rfl | (simp; done) | (simp [*]; done)), H', ⟨by have := HJ2.out; first | omega | exact Nat.le_refl _⟩, ⟨by refine blk_far ?_ NB419_431.out _; refine blk_far ?_ NB419_431.out _; refine blk_far ?_ NB419_431.out _; refine blk_far ?_ NB419_431.out _; refine blk_far ?_ NB419_431.out _; refine blk_far ?_ NB419_431.out _; exact BK419.out⟩, ⟨by refine blk_put (cs := #[.bool false, .int .i64 t426, .int .i64 t427, .int .i64 t428, .int .i64 t429, .int .i64 0]) ?_ 5 _ rfl; refine blk_put (cs := #[.bool false, .int .i64 t426, .int .i64 t427, .int .i64 t428, .int .i64 0, .int .i64 0]) ?_ 4 _ rfl; refine blk_put (cs := #[.bool false, .int .i64 t426, .int .i64 t427, .int .i64 0, .int .i64 0, .int .i64 0]) ?_ 3 _ rfl; refine blk_put (cs := #[.bool false, .int .i64 t426, .int .i64 0, .int .i64 0, .int .i64 0, .int .i64 0]) ?_ 2 _ rfl; refine blk_put (cs := #[.bool false, .int .i64 0, .int .i64 0, .int .i64 0, .int .i64 0, .int .i64 0]) ?_ 1 _ rfl; refine blk_put (cs := #[.bool false, .int .i64 0, .int .i64 0, .int .i64 0, .int .i64 0, .int .i64 0]) ?_ 0 _ rfl; exact BK431.out⟩, ⟨by repeat (first | (with_reducible first | exact HB.out | apply below_alloc | apply pw_below_drewN | apply below_drew1 | refine below_set ?_ GE419.out | refine below_set ?_ GE431.out) | exact HB.out)⟩⟩
      ·rw [if_neg c34] at H
       have c34b0 : ((t420.length : Int) == 8) = false := beq_eq_false_iff_ne.mpr c34
       have c34b1 : ((t420.length : Int) != 8) = true := bne_iff_ne.mpr c34
       (first | rw [c34b0] | (simp only [i64_w, i32_w]; rw [c34b0]) | skip)
       have H' := Aside0.mk H
       clear H
       go_wp2
       go_meet
       case rel => exact ⟨_, (true), (by first | rfl | (simp; done) | (simp [*]; done)), H', ⟨by have := HJ2.out; first | omega | exact Nat.le_refl _⟩, ⟨by refine blk_far ?_ NB419_431.out _; refine blk_far ?_ NB419_431.out _; refine blk_far ?_ NB419_431.out _; refine blk_far ?_ NB419_431.out _; refine blk_far ?_ NB419_431.out _; refine blk_far ?_ NB419_431.out _; exact BK419.out⟩, ⟨by refine blk_put (cs := #[.bool t425, .int .i64 t426, .int .i64 t427, .int .i64 t428, .int .i64 t429, .int .i64 0]) ?_ 5 _ rfl; refine blk_put (cs := #[.bool t425, .int .i64 t426, .int .i64 t427, .int .i64 t428, .int .i64 0, .int .i64 0]) ?_ 4 _ rfl; refine blk_put (cs := #[.bool t425, .int .i64 t426, .int .i64 t427, .int .i64 0, .int .i64 0, .int .i64 0]) ?_ 3 _ rfl; refine blk_put (cs := #[.bool t425, .int .i64 t426, .int .i64 0, .int .i64 0, .int .i64 0, .int .i64 0]) ?_ 2 _ rfl; refine blk_put (cs := #[.bool t425, .int .i64 0, .int .i64 0, .int .i64 0, .int .i64 0, .int .i64 0]) ?_ 1 _ rfl; refine blk_put (cs := #[.bool false, .int .i64 0, .int .i64 0, .int .i64 0, .int .i64 0, .int .i64 0]) ?_ 0 _ rfl; exact BK431.out⟩, ⟨by repeat (first | (with_reducible first | exact HB.out | apply below_alloc | apply pw_below_drewN | apply below_drew1 | refine below_set ?_ GE419.out | refine below_set ?_ GE431.out) | exact HB.out)⟩⟩
     case rest =>
      clear HC22
      try clear c1
      try clear c2
      try clear p2
      try clear c3
      try clear c4
      try clear c4b0
      try clear c4b1
      try clear q4
      try clear c5
      try clear c8
      try clear c9
      try clear c11
      try clear c22
      try clear c30
      try clear c32
      try clear c33
      try clear c34
      try clear c34b0
      try clear c34b1
      try clear c35
      try clear c36
      try clear c36b0
      try clear c37
      try clear c40
      try clear c40b0
      try clear c40b1
      try clear c42
      try clear q45
      try clear c48
      try clear hcz14_0
      try clear hcz14_1
      try clear hcz14_2
      try clear hcz14_3
      try clear hcz14_4
      try clear hcz16_0
      try clear hcz16_1
      try clear hcz16_2
      try clear hcz16_3
      try clear hcz16_4
      try clear hcz18_0
      try clear hcz18_1
      try clear hcz18_2
      try clear hcz18_3
      try clear hcz18_4
      try clear hcz25_0
      try clear hcz25_1
      try clear hcz25_2
      try clear hcz25_3
      try clear hcz25_4
      try clear hcz27_0
      try clear hcz27_1
      try clear hcz27_2
      try clear hcz27_3
      try clear hcz27_4
      try clear hcz33_0
      try clear hcz33_1
      try clear hcz33_2
      try clear hcz33_3
      try clear hcz33_4
      try clear hcz33_5
      try clear hcz38_0
      try clear hcz38_1
      try clear hcz38_2
      try clear hcz38_3
      try clear hcz38_4
      try clear hcz38_5
      try clear hcz39_0
      try clear hcz39_1
      try clear hcz39_2
      try clear hcz39_3
      try clear hcz39_4
      try clear hcz43_0
      try clear hcz43_1
      try clear hcz43_2
      try clear hcz43_3
      try clear hcz43_4
      try clear hcz43_5
      try clear hcz44_0
      try clear hcz44_1
      try clear hcz44_2
      try clear hcz44_3
      try clear hcz44_4
      try clear hcz49_0
      try clear hcz49_1
      try clear hcz49_2
      try clear hcz49_3
      try clear hcz49_4
      try clear hcz49_5
      try clear hfz14_0
      try clear hfz14_1
      try clear hfz14_2
      try clear hfz14_3
      try clear hfz14_4
      try clear hfz16_0
      try clear hfz16_1
      try clear hfz16_2
      try clear hfz16_3
      try clear hfz16_4
      try clear hfz18_0
      try clear hfz18_1
      try clear hfz18_2
      try clear hfz18_3
      try clear hfz18_4
      try clear hfz25_0
      try clear hfz25_1
      try clear hfz25_2
      try clear hfz25_3
      try clear hfz25_4
      try clear hfz27_0
      try clear hfz27_1
      try clear hfz27_2
      try clear hfz27_3
      try clear hfz27_4
      try clear hfz33_0
      try clear hfz33_1
      try clear hfz33_2
      try clear hfz33_3
      try clear hfz33_4
      try clear hfz33_5
      try clear hfz38_0
      try clear hfz38_1
      try clear hfz38_2
      try clear hfz38_3
      try clear hfz38_4
      try clear hfz38_5
      try clear hfz39_0
      try clear hfz39_1
      try clear hfz39_2
      try clear hfz39_3
      try clear hfz39_4
      try clear hfz43_0
      try clear hfz43_1
      try clear hfz43_2
      try clear hfz43_3
      try clear hfz43_4
      try clear hfz43_5
      try clear hfz44_0
      try clear hfz44_1
      try clear hfz44_2
      try clear hfz44_3
      try clear hfz44_4
      try clear hfz49_0
      try clear hfz49_1
      try clear hfz49_2
      try clear hfz49_3
      try clear hfz49_4
      try clear hfz49_5
      try clear p2
      try clear q45
      obtain ⟨kq, x52_21, rfl, HA, HJ21, BK419, BK431, HB⟩ := hcut
      cases kq with
      | zero => exact absurd HA.out (by simp [laws_FnIns.j1])
      | succ kj21 =>
       have H := HA.out
       clear HA
       simp only [laws_FnIns.j1] at H
       by_cases c50 : x52_21 = true
       ·subst c50
        rw [if_pos rfl] at H
        obtain rfl := Option.some.inj H
        exact absurd hlaw.out (by simp)
       ·replace c50 := Bool.eq_false_iff.mpr c50
        subst c50
        rw [if_neg (show ¬ (false = true) by decide)] at H
        replace H := Option.bind_eq_some_iff.mp H
        obtain ⟨t442, A510, H⟩ := H
        replace H : ((impl_DecodeIns.f kj21 t442).bind fun bt445 => ((spec_DecodeIns.f kj21 t442).bind fun bt452 => (if (bt445.1 == bt452.1) = true then (if bt445.1 = true then ((impl_EncodeIns.f kj21 bt445.2.1 bt445.2.2.1 bt445.2.2.2.1 bt445.2.2.2.2.1 bt445.2.2.2.2.2).bind fun t458 => (some ((strOfNums t458).toList == (strOfNums t442).toList))) else (some true)) else (some false)))) = some r := H
        have A51 := Aside0.mk A510
        clear A510
        replace H := Option.bind_eq_some_iff.mp H
        obtain ⟨⟨t445, t446, t447, t448, t449, t450⟩, A520, H⟩ := H
        replace H : ((spec_DecodeIns.f kj21 t442).bind fun bt452 => (if (t445 == bt452.1) = true then (if t445 = true then ((impl_EncodeIns.f kj21 t446 t447 t448 t449 t450).bind fun t458 => (some ((strOfNums t458).toList == (strOfNums t442).toList))) else (some true)) else (some false))) = some r := H
        have A52 := Aside0.mk A520
        clear A520
        replace H := Option.bind_eq_some_iff.mp H
        obtain ⟨⟨t452, t453, t454, t455, t456, t457⟩, A530, H⟩ := H
        replace H : (if (t445 == t452) = true then (if t445 = true then ((impl_EncodeIns.f kj21 t446 t447 t448 t449 t450).bind fun t458 => (some ((strOfNums t458).toList == (strOfNums t442).toList))) else (some true)) else (some false)) = some r := H
        have A53 := Aside0.mk A530
        clear A530
        by_cases c54 : (t445 == t452) = true
        ·rw [if_pos c54] at H
         have c54b0 : (t445 == t452) = true := c54
         (try (have c54b1 : decide (t445 = t452) = true := by simpa using c54))
         (try (have c54b2 : (t445 == t452) = true := by simpa using c54))
         clear c54
         by_cases c55 : t445 = true
         ·subst c55
          rw [if_pos rfl] at H
          replace H := Option.bind_eq_some_iff.mp H
          obtain ⟨t458, A560, H⟩ := H
          replace H : (some ((strOfNums t458).toList == (strOfNums t442).toList)) = some r := H
          have A56 := Aside0.mk A560
          clear A560
          obtain rfl := Option.some.inj H
          try go_wp2_with (first | ((with_reducible refine gate_callee (f := 35) rfl ?_); refine goesL_ (some 54) rfl rfl Try.func35 (by kernel_rfl) rfl #[.slice A1 l1.length c1] rfl (by (try simp only [List.map_toArray, List.map_cons, List.map_nil]); first | done | rfl | (simp only [List.length_drop, List.length_take]; rfl)) ?_; (with_reducible refine (spec_DrawDecodeIns.calls kj21 _ _ l1 t442 _ ?side1 ?side2 A51.out).mono ?_); (case side1 => repeat (first | exact (Kd.C_below HR1.out HB.out) | (with_reducible refine Kd.C_alloc ?_ _) | (with_reducible refine Kd.C_drewN ?_ _) | (with_reducible refine Kd.C_drew ?_))); (case side2 => exact HC1.out); rintro e w57 ⟨v443, rfl, ho0, hb⟩; refine ⟨_, rfl, ?_⟩; have n0_ := Aside0.mk (Kd.R_lower ho0 (below_size (by repeat (first | (with_reducible first | exact HB.out | apply below_alloc | apply pw_below_drewN | apply below_drew1 | refine below_set ?_ GE419.out | refine below_set ?_ GE431.out) | exact HB.out)))); have n1_ := Aside0.mk (blk_below (g := gb419) (o := .cells #[.int .i64 t414, .int .i64 t415, .int .i64 t416, .int .i64 t417, .int .i64 t418] 41 (0, 0)) (by exact BK419.out) hb); have n2_ := Aside0.mk (blk_below (g := gb431) (o := .cells #[.bool t425, .int .i64 t426, .int .i64 t427, .int .i64 t428, .int .i64 t429, .int .i64 t430] 47 (0, 0)) (by exact BK431.out) hb); have n3_ := Aside0.mk (below_step (by repeat (first | (with_reducible first | exact HB.out | apply below_alloc | apply pw_below_drewN | apply below_drew1 | refine below_set ?_ GE419.out | refine below_set ?_ GE431.out) | exact HB.out)) hb); clear BK419; clear BK431; clear HB; have HO444 := n0_; have BK419 := n1_; have BK431 := n2_; have HB := n3_; clear n0_ n1_ n2_ n3_; (try clear hb); (try clear hb2); (try clear hk); (try clear hi); (try clear ho0); obtain ⟨Ao58, co58, eo58⟩ := Kd.R_slice HO444.out; subst eo58) | ((with_reducible refine gate_callee (f := 30) rfl ?_); refine goesL_ (some 56) rfl rfl Try.func30 (by kernel_rfl) rfl #[.slice Ao58 t442.length co58] rfl (by (try simp only [List.map_toArray, List.map_cons, List.map_nil]); first | done | rfl | (simp only [List.length_drop, List.length_take]; rfl)) ?_; (with_reducible refine (impl_DecodeIns.calls kj21 _ _ t442 true t446 t447 t448 t449 t450 _ ?side1 ?side2 A52.out).mono ?_); (case side1 => repeat (first | exact (Kd.R_reads' HO444.out).2.2 | (with_reducible refine Kd.C_alloc ?_ _) | (with_reducible refine Kd.C_drewN ?_ _) | (with_reducible refine Kd.C_drew ?_))); (case side2 => exact (Kd.R_reads' HO444.out).2.1); rintro e w59 ⟨rfl, hb⟩; refine ⟨_, rfl, ?_⟩; have n0_ := Aside0.mk (Kd.R_below (by exact HO444.out) hb); have n1_ := Aside0.mk (blk_below (g := gb419) (o := .cells #[.int .i64 t414, .int .i64 t415, .int .i64 t416, .int .i64 t417, .int .i64 t418] 41 (0, 0)) (by exact BK419.out) hb); have n2_ := Aside0.mk (blk_below (g := gb431) (o := .cells #[.bool t425, .int .i64 t426, .int .i64 t427, .int .i64 t428, .int .i64 t429, .int .i64 t430] 47 (0, 0)) (by exact BK431.out) hb); have n3_ := Aside0.mk (below_step (by repeat (first | (with_reducible first | exact HB.out | apply below_alloc | apply pw_below_drewN | apply below_drew1 | refine below_set ?_ GE419.out | refine below_set ?_ GE431.out) | exact HB.out)) hb); clear HO444; clear BK419; clear BK431; clear HB; have HO444 := n0_; have BK419 := n1_; have BK431 := n2_; have HB := n3_; clear n0_ n1_ n2_ n3_; (try clear hb); (try clear hb2); (try clear hk); (try clear hi)) | ((with_reducible refine gate_dst (N := 9) rfl ?_); (try (refine gate_guard (by rfl) ?_; dsimp only)); refine box_event ?hg (N := 9) ?hd (cs := #[.bool false, .int .i64 0, .int .i64 0, .int .i64 0, .int .i64 0, .int .i64 0]) (t := 47) ?hr ?_; (case hd => rfl); (case hg => rfl); (case hr => first | (go_simp; done) | (go_simp; rfl)); intro gb451 hg w60 hbox hb; have n0_ := Aside0.mk (Kd.R_below (by exact HO444.out) hb); have n1_ := Aside0.mk (blk_below (g := gb419) (o := .cells #[.int .i64 t414, .int .i64 t415, .int .i64 t416, .int .i64 t417, .int .i64 t418] 41 (0, 0)) (by exact BK419.out) hb); have n2_ := Aside0.mk (blk_below (g := gb431) (o := .cells #[.bool t425, .int .i64 t426, .int .i64 t427, .int .i64 t428, .int .i64 t429, .int .i64 t430] 47 (0, 0)) (by exact BK431.out) hb); have n3_ := Aside0.mk (below_step (by repeat (first | (with_reducible first | exact HB.out | apply below_alloc | apply pw_below_drewN | apply below_drew1 | refine below_set ?_ GE419.out | refine below_set ?_ GE431.out) | exact HB.out)) hb); have n4_ := Aside0.mk (hbox); have n5_ := Aside0.mk ((by rw [hg]; exact (below_size (by repeat (first | (with_reducible first | exact HB.out | apply below_alloc | apply pw_below_drewN | apply below_drew1 | refine below_set ?_ GE419.out | refine below_set ?_ GE431.out) | exact HB.out))) : w.heap.size ≤ gb451)); have n6_ := Aside0.mk ((by rw [hg]; exact (below_size (by repeat (first | (with_reducible first | exact HB.out | apply below_alloc | apply pw_below_drewN | apply below_drew1 | refine below_set ?_ GE419.out | refine below_set ?_ GE431.out) | exact HB.out))) : w.heap.size ≤ gb451)); have n7_ := Aside0.mk ((by rw [hg]; exact Nat.ne_of_lt (blk_lt (g := gb419) (o := .cells #[.int .i64 t414, .int .i64 t415, .int .i64 t416, .int .i64 t417, .int .i64 t418] 41 (0, 0)) (by exact BK419.out)) : gb419 ≠ gb451)); have n8_ := Aside0.mk ((by rw [hg]; exact Nat.ne_of_gt (blk_lt (g := gb419) (o := .cells #[.int .i64 t414, .int .i64 t415, .int .i64 t416, .int .i64 t417, .int .i64 t418] 41 (0, 0)) (by exact BK419.out)) : gb451 ≠ gb419)); have n9_ := Aside0.mk ((by rw [hg]; exact Nat.ne_of_lt (blk_lt (g := gb431) (o := .cells #[.bool t425, .int .i64 t426, .int .i64 t427, .int .i64 t428, .int .i64 t429, .int .i64 t430] 47 (0, 0)) (by exact BK431.out)) : gb431 ≠ gb451)); have n10_ := Aside0.mk ((by rw [hg]; exact Nat.ne_of_gt (blk_lt (g := gb431) (o := .cells #[.bool t425, .int .i64 t426, .int .i64 t427, .int .i64 t428, .int .i64 t429, .int .i64 t430] 47 (0, 0)) (by exact BK431.out)) : gb451 ≠ gb431)); clear HO444; clear BK419; clear BK431; clear HB; have HO444 := n0_; have BK419 := n1_; have BK431 := n2_; have HB := n3_; have BK451 := n4_; have GW451 := n5_; have GE451 := n6_; have NB419_451 := n7_; have NB451_419 := n8_; have NB431_451 := n9_; have NB451_431 := n10_; clear n0_ n1_ n2_ n3_ n4_ n5_ n6_ n7_ n8_ n9_ n10_; clear hb hbox hg; have hnb61 := NB451_419.out; have hnc61 := NB419_451.out; have hnb62 := NB451_431.out; have hnc62 := NB431_451.out; have hcz63_0 : w60.cell? ⟨gb451, 0, none⟩ = some (.bool false) := (blk_cell BK451.out 0).trans rfl; have hcz63_1 : w60.cell? ⟨gb451, 1, none⟩ = some (.int .i64 0) := (blk_cell BK451.out 1).trans rfl; have hcz63_2 : w60.cell? ⟨gb451, 2, none⟩ = some (.int .i64 0) := (blk_cell BK451.out 2).trans rfl; have hcz63_3 : w60.cell? ⟨gb451, 3, none⟩ = some (.int .i64 0) := (blk_cell BK451.out 3).trans rfl; have hcz63_4 : w60.cell? ⟨gb451, 4, none⟩ = some (.int .i64 0) := (blk_cell BK451.out 4).trans rfl; have hcz63_5 : w60.cell? ⟨gb451, 5, none⟩ = some (.int .i64 0) := (blk_cell BK451.out 5).trans rfl; have hfz63_0 := blk_frozen BK451.out 0; have hfz63_1 := blk_frozen BK451.out 1; have hfz63_2 := blk_frozen BK451.out 2; have hfz63_3 := blk_frozen BK451.out 3; have hfz63_4 := blk_frozen BK451.out 4; have hfz63_5 := blk_frozen BK451.out 5))
          have n0_ : Aside0 (Kd.R (Kd.int .u8) 5 ((((((w60.setCell ⟨gb451, 0, none⟩ (.bool true)).setCell ⟨gb451, 1, none⟩ (.int .i64 t446)).setCell ⟨gb451, 2, none⟩ (.int .i64 t447)).setCell ⟨gb451, 3, none⟩ (.int .i64 t448)).setCell ⟨gb451, 4, none⟩ (.int .i64 t449)).setCell ⟨gb451, 5, none⟩ (.int .i64 t450)) w.heap.size (fun _ => True) (.slice Ao58 t442.length co58) t442) := ⟨by exact Kd.R_mono (Kd.R_far (p := ⟨gb451, 5, none⟩) (Kd.R_far (p := ⟨gb451, 4, none⟩) (Kd.R_far (p := ⟨gb451, 3, none⟩) (Kd.R_far (p := ⟨gb451, 2, none⟩) (Kd.R_far (p := ⟨gb451, 1, none⟩) (Kd.R_far (p := ⟨gb451, 0, none⟩) (Kd.R_types HO444.out BK451.out (by decide)) (fun _ hk => hk.2) (.bool true)) (fun _ hk => hk.2) (.int .i64 t446)) (fun _ hk => hk.2) (.int .i64 t447)) (fun _ hk => hk.2) (.int .i64 t448)) (fun _ hk => hk.2) (.int .i64 t449)) (fun _ hk => hk.2) (.int .i64 t450)) (fun _ hk => trivial)⟩
          have n1_ : Aside0 (((((((w60.setCell ⟨gb451, 0, none⟩ (.bool true)).setCell ⟨gb451, 1, none⟩ (.int .i64 t446)).setCell ⟨gb451, 2, none⟩ (.int .i64 t447)).setCell ⟨gb451, 3, none⟩ (.int .i64 t448)).setCell ⟨gb451, 4, none⟩ (.int .i64 t449)).setCell ⟨gb451, 5, none⟩ (.int .i64 t450)).heap[gb419]? = some (.cells #[.int .i64 t414, .int .i64 t415, .int .i64 t416, .int .i64 t417, .int .i64 t418] 41 (0, 0))) := ⟨by refine blk_far ?_ NB419_451.out _; refine blk_far ?_ NB419_451.out _; refine blk_far ?_ NB419_451.out _; refine blk_far ?_ NB419_451.out _; refine blk_far ?_ NB419_451.out _; refine blk_far ?_ NB419_451.out _; exact BK419.out⟩
          have n2_ : Aside0 (((((((w60.setCell ⟨gb451, 0, none⟩ (.bool true)).setCell ⟨gb451, 1, none⟩ (.int .i64 t446)).setCell ⟨gb451, 2, none⟩ (.int .i64 t447)).setCell ⟨gb451, 3, none⟩ (.int .i64 t448)).setCell ⟨gb451, 4, none⟩ (.int .i64 t449)).setCell ⟨gb451, 5, none⟩ (.int .i64 t450)).heap[gb431]? = some (.cells #[.bool t425, .int .i64 t426, .int .i64 t427, .int .i64 t428, .int .i64 t429, .int .i64 t430] 47 (0, 0))) := ⟨by refine blk_far ?_ NB431_451.out _; refine blk_far ?_ NB431_451.out _; refine blk_far ?_ NB431_451.out _; refine blk_far ?_ NB431_451.out _; refine blk_far ?_ NB431_451.out _; refine blk_far ?_ NB431_451.out _; exact BK431.out⟩
          have n3_ : Aside0 (((((((w60.setCell ⟨gb451, 0, none⟩ (.bool true)).setCell ⟨gb451, 1, none⟩ (.int .i64 t446)).setCell ⟨gb451, 2, none⟩ (.int .i64 t447)).setCell ⟨gb451, 3, none⟩ (.int .i64 t448)).setCell ⟨gb451, 4, none⟩ (.int .i64 t449)).setCell ⟨gb451, 5, none⟩ (.int .i64 t450)).heap[gb451]? = some (.cells #[.bool true, .int .i64 t446, .int .i64 t447, .int .i64 t448, .int .i64 t449, .int .i64 t450] 47 (0, 0))) := ⟨by refine blk_put (cs := #[.bool true, .int .i64 t446, .int .i64 t447, .int .i64 t448, .int .i64 t449, .int .i64 0]) ?_ 5 _ rfl; refine blk_put (cs := #[.bool true, .int .i64 t446, .int .i64 t447, .int .i64 t448, .int .i64 0, .int .i64 0]) ?_ 4 _ rfl; refine blk_put (cs := #[.bool true, .int .i64 t446, .int .i64 t447, .int .i64 0, .int .i64 0, .int .i64 0]) ?_ 3 _ rfl; refine blk_put (cs := #[.bool true, .int .i64 t446, .int .i64 0, .int .i64 0, .int .i64 0, .int .i64 0]) ?_ 2 _ rfl; refine blk_put (cs := #[.bool true, .int .i64 0, .int .i64 0, .int .i64 0, .int .i64 0, .int .i64 0]) ?_ 1 _ rfl; refine blk_put (cs := #[.bool false, .int .i64 0, .int .i64 0, .int .i64 0, .int .i64 0, .int .i64 0]) ?_ 0 _ rfl; exact BK451.out⟩
          have n4_ : Aside0 (Below w.heap.size w ((((((w60.setCell ⟨gb451, 0, none⟩ (.bool true)).setCell ⟨gb451, 1, none⟩ (.int .i64 t446)).setCell ⟨gb451, 2, none⟩ (.int .i64 t447)).setCell ⟨gb451, 3, none⟩ (.int .i64 t448)).setCell ⟨gb451, 4, none⟩ (.int .i64 t449)).setCell ⟨gb451, 5, none⟩ (.int .i64 t450))) := ⟨by repeat (first | (with_reducible first | exact HB.out | apply below_alloc | apply pw_below_drewN | apply below_drew1 | refine below_set ?_ GE419.out | refine below_set ?_ GE431.out | refine below_set ?_ GE451.out) | exact HB.out)⟩
          (try clear HO444)
          (try clear BK419)
          (try clear BK431)
          (try clear BK451)
          (try clear HB)
          generalize ((((((w60.setCell ⟨gb451, 0, none⟩ (.bool true)).setCell ⟨gb451, 1, none⟩ (.int .i64 t446)).setCell ⟨gb451, 2, none⟩ (.int .i64 t447)).setCell ⟨gb451, 3, none⟩ (.int .i64 t448)).setCell ⟨gb451, 4, none⟩ (.int .i64 t449)).setCell ⟨gb451, 5, none⟩ (.int .i64 t450)) = w64 at n0_ n1_ n2_ n3_ n4_ ⊢
          have HO444 := n0_
          have BK419 := n1_
          have BK431 := n2_
          have BK451 := n3_
          have HB := n4_
          clear n0_ n1_ n2_ n3_ n4_
          have n0_ := Aside0.mk (Kd.R_drew HO444.out)
          have n1_ := Aside0.mk (blk_drew BK419.out)
          have n2_ := Aside0.mk (blk_drew BK431.out)
          have n3_ := Aside0.mk (blk_drew BK451.out)
          have n4_ := Aside0.mk (below_drew1 HB.out)
          clear HO444
          clear BK419
          clear BK431
          clear BK451
          clear HB
          have HO444 := n0_
          have BK419 := n1_
          have BK431 := n2_
          have BK451 := n3_
          have HB := n4_
          clear n0_ n1_ n2_ n3_ n4_
          have hfd_ : ∀ w_ : World, (Instr.field 47 (.agg #[.bool t452, .int .i64 t453, .int .i64 t454, .int .i64 t455, .int .i64 t456, .int .i64 t457]) 0).run Try.prog w_ = .ok (.bool t452) w_ := fun _ => by kernel_rfl
          refine start_ (n := 21) (S := fun w' => w'.cell? ⟨gb451, 0, none⟩ = some (.bool true) ∧ w'.cell? ⟨gb451, 1, none⟩ = some (.int .i64 t446) ∧ w'.cell? ⟨gb451, 2, none⟩ = some (.int .i64 t447) ∧ w'.cell? ⟨gb451, 3, none⟩ = some (.int .i64 t448) ∧ w'.cell? ⟨gb451, 4, none⟩ = some (.int .i64 t449) ∧ w'.cell? ⟨gb451, 5, none⟩ = some (.int .i64 t450) ∧ (convert 22 9 (.slice Ao58 t442.length co58)).run Try.prog w' = .ok (.string (strOfNums t442)) w') (ds := []) #[false, false, false, false, false, false, false, false, false, false, false, false, false, false, false, false, false, false, false, false, false] (by kernel_rfl) rfl rfl ⟨(blk_cell BK451.out 0).trans rfl, (blk_cell BK451.out 1).trans rfl, (blk_cell BK451.out 2).trans rfl, (blk_cell BK451.out 3).trans rfl, (blk_cell BK451.out 4).trans rfl, (blk_cell BK451.out 5).trans rfl, own_string (P := Try.prog) Try.underlying22 Try.underlying5 Try.underlying9 (Kd.own_of_R HO444.out)⟩ (fun hHeld => ?_); refine with_tabW laws_FnIns.tab12 laws_FnIns.bits12 (fun HT_ HW_ => ?_)
          generalize w64.drew = w65 at HO444 BK419 BK431 BK451 HB hHeld ⊢
          refine pure_ (i := 0) (N := some 57) (v := ?_) (a' := ?_) #[true, false, false, false, false, false, false, false, false, false, false, false, false, false, false, false, false, false, false, false, false] rfl rfl (any_of HT_.out (by kernel_rfl)) (fun _ _ _ h => h) (Or.inl ⟨by rfl, ?_⟩) ?_ ?_
          rotate_left
          ·intro w'
           go_simp
           with_reducible rfl
          rotate_left
          ·simp only [Act.put, List.setIfInBounds_toArray, List.set_cons_zero, List.set_cons_succ, i64_w, i32_w]
           rfl
          refine pure_ (i := 2) (N := some 59) (v := ?_) (a' := ?_) #[true, false, true, false, false, false, false, false, false, false, false, false, false, false, false, false, false, false, false, false, false] rfl rfl (any_of HT_.out (by kernel_rfl)) (fun _ _ _ h => h) (Or.inl ⟨by rfl, ?_⟩) ?_ ?_
          rotate_left
          ·intro w'
           go_simp
           with_reducible rfl
          rotate_left
          ·simp only [Act.put, List.setIfInBounds_toArray, List.set_cons_zero, List.set_cons_succ, i64_w, i32_w]
           rfl
          refine take_ (i := 1) (N := some 58) (v := ?_) (a' := ?_) #[true, true, true, false, false, false, false, false, false, false, false, false, false, false, false, false, false, false, false, false, false] rfl rfl (take_ofW HT_.out HW_.out (by kernel_rfl)) (fun _ _ _ h => h) (Or.inl ⟨by rfl, ?_⟩) hHeld ?_ ?_
          rotate_left
          ·rintro w' ⟨s0, s1, s2, s3, s4, s5, s6⟩
           go_simp
           with_reducible rfl
          rotate_left
          ·simp only [Act.put, List.setIfInBounds_toArray, List.set_cons_zero, List.set_cons_succ, i64_w, i32_w]
           rfl
          refine one_ (i := 3) (N := some 60) #[true, true, true, true, false, false, false, false, false, false, false, false, false, false, false, false, false, false, false, false, false] rfl rfl (one_of HT_.out (by kernel_rfl)) (by decide) (fun K hK => ?_)
          refine goes_ Try.func28 (by kernel_rfl) rfl #[.slice Ao58 t442.length co58] (by rfl) rfl rfl (by (try simp only [List.map_toArray, List.map_cons, List.map_nil]); first | done | rfl | (simp only [List.length_drop, List.length_take]; rfl)) ?_
          with_reducible refine (spec_DecodeIns.calls kj21 _ _ t442 t452 t453 t454 t455 t456 t457 _ ?side1 ?side2 A53.out).mono ?_
          (case side1 => repeat (first | exact (Kd.R_reads' HO444.out).2.2 | (with_reducible refine Kd.C_alloc ?_ _) | (with_reducible refine Kd.C_drewN ?_ _) | (with_reducible refine Kd.C_drew ?_)))
          (case side2 => exact (Kd.R_reads' HO444.out).2.1)
          rintro e w66 ⟨rfl, hb⟩
          refine ⟨_, rfl, ?_⟩
          have n0_ := Aside0.mk (Kd.R_below (by exact HO444.out) hb)
          have n1_ := Aside0.mk (blk_below (g := gb419) (o := .cells #[.int .i64 t414, .int .i64 t415, .int .i64 t416, .int .i64 t417, .int .i64 t418] 41 (0, 0)) (by exact BK419.out) hb)
          have n2_ := Aside0.mk (blk_below (g := gb431) (o := .cells #[.bool t425, .int .i64 t426, .int .i64 t427, .int .i64 t428, .int .i64 t429, .int .i64 t430] 47 (0, 0)) (by exact BK431.out) hb)
          have n3_ := Aside0.mk (blk_below (g := gb451) (o := .cells #[.bool true, .int .i64 t446, .int .i64 t447, .int .i64 t448, .int .i64 t449, .int .i64 t450] 47 (0, 0)) (by exact BK451.out) hb)
          have n4_ := Aside0.mk (below_step (by repeat (first | (with_reducible first | exact HB.out | apply below_alloc | apply pw_below_drewN | apply below_drew1 | refine below_set ?_ GE419.out | refine below_set ?_ GE431.out | refine below_set ?_ GE451.out) | exact HB.out)) hb)
          clear HO444
          clear BK419
          clear BK431
          clear BK451
          clear HB
          have HO444 := n0_
          have BK419 := n1_
          have BK431 := n2_
          have BK451 := n3_
          have HB := n4_
          clear n0_ n1_ n2_ n3_ n4_
          (try clear hb)
          (try clear hb2)
          (try clear hk)
          (try clear hi)
          refine hK.out _ _ ⟨(blk_cell BK451.out 0).trans rfl, (blk_cell BK451.out 1).trans rfl, (blk_cell BK451.out 2).trans rfl, (blk_cell BK451.out 3).trans rfl, (blk_cell BK451.out 4).trans rfl, (blk_cell BK451.out 5).trans rfl, own_string (P := Try.prog) Try.underlying22 Try.underlying5 Try.underlying9 (Kd.own_of_R HO444.out)⟩ (fun hHeld => ?_)
          clear hK K
          refine norm_ (a' := ?_) ?_ ?_
          rotate_left
          ·show Act.put _ (some 60) _ = _
           simp only [Act.put, List.setIfInBounds_toArray, List.set_cons_zero, List.set_cons_succ, i64_w, i32_w]
           rfl
          refine pure_ (i := 4) (N := some 61) (v := ?_) (a' := ?_) #[true, true, true, true, true, false, false, false, false, false, false, false, false, false, false, false, false, false, false, false, false] rfl rfl (any_of HT_.out (by kernel_rfl)) (fun _ _ _ h => h) (Or.inl ⟨by rfl, ?_⟩) ?_ ?_
          rotate_left
          ·intro w'
           go_simp
           with_reducible rfl
          rotate_left
          ·simp only [Act.put, List.setIfInBounds_toArray, List.set_cons_zero, List.set_cons_succ, i64_w, i32_w]
           rfl
          refine pure_ (i := 5) (N := some 62) (v := ?_) (a' := ?_) #[true, true, true, true, true, true, false, false, false, false, false, false, false, false, false, false, false, false, false, false, false] rfl rfl (any_of HT_.out (by kernel_rfl)) (fun _ _ _ h => h) (Or.inl ⟨by rfl, ?_⟩) ?_ ?_
          rotate_left
          ·intro w'
           go_simp
           with_reducible rfl
          rotate_left
          ·simp only [Act.put, List.setIfInBounds_toArray, List.set_cons_zero, List.set_cons_succ, i64_w, i32_w]
           rfl
          refine pure_ (i := 6) (N := some 63) (v := ?_) (a' := ?_) #[true, true, true, true, true, true, true, false, false, false, false, false, false, false, false, false, false, false, false, false, false] rfl rfl (any_of HT_.out (by kernel_rfl)) (fun _ _ _ h => h) (Or.inl ⟨by rfl, ?_⟩) ?_ ?_
          rotate_left
          ·intro w'
           go_simp
           with_reducible rfl
          rotate_left
          ·simp only [Act.put, List.setIfInBounds_toArray, List.set_cons_zero, List.set_cons_succ, i64_w, i32_w]
           rfl
          refine pure_ (i := 7) (N := some 64) (v := ?_) (a' := ?_) #[true, true, true, true, true, true, true, true, false, false, false, false, false, false, false, false, false, false, false, false, false] rfl rfl (any_of HT_.out (by kernel_rfl)) (fun _ _ _ h => h) (Or.inl ⟨by rfl, ?_⟩) ?_ ?_
          rotate_left
          ·intro w'
           go_simp
           with_reducible rfl
          rotate_left
          ·simp only [Act.put, List.setIfInBounds_toArray, List.set_cons_zero, List.set_cons_succ, i64_w, i32_w]
           rfl
          refine take_ (i := 8) (N := some 65) (v := ?_) (a' := ?_) #[true, true, true, true, true, true, true, true, true, false, false, false, false, false, false, false, false, false, false, false, false] rfl rfl (take_ofW HT_.out HW_.out (by kernel_rfl)) (fun _ _ _ h => h) (Or.inl ⟨by rfl, ?_⟩) hHeld ?_ ?_
          rotate_left
          ·rintro w' ⟨s0, s1, s2, s3, s4, s5, s6⟩
           go_simp
           with_reducible rfl
          rotate_left
          ·simp only [Act.put, List.setIfInBounds_toArray, List.set_cons_zero, List.set_cons_succ, i64_w, i32_w]
           rfl
          refine pure_ (i := 9) (N := some 66) (v := ?_) (a' := ?_) #[true, true, true, true, true, true, true, true, true, true, false, false, false, false, false, false, false, false, false, false, false] rfl rfl (any_of HT_.out (by kernel_rfl)) (fun _ _ _ h => h) (Or.inl ⟨by rfl, ?_⟩) ?_ ?_
          rotate_left
          ·intro w'
           go_simp
           with_reducible rfl
          rotate_left
          ·simp only [Act.put, List.setIfInBounds_toArray, List.set_cons_zero, List.set_cons_succ, i64_w, i32_w]
           rfl
          refine pure_ (i := 10) (N := some 67) (v := ?_) (a' := ?_) #[true, true, true, true, true, true, true, true, true, true, true, false, false, false, false, false, false, false, false, false, false] rfl rfl (any_of HT_.out (by kernel_rfl)) (fun _ _ _ h => h) (Or.inl ⟨by rfl, ?_⟩) ?_ ?_
          rotate_left
          ·intro w'
           go_simp
           with_reducible rfl
          rotate_left
          ·simp only [Act.put, List.setIfInBounds_toArray, List.set_cons_zero, List.set_cons_succ, i64_w, i32_w]
           rfl
          refine pure_ (i := 11) (N := some 68) (v := ?_) (a' := ?_) #[true, true, true, true, true, true, true, true, true, true, true, true, false, false, false, false, false, false, false, false, false] rfl rfl (any_of HT_.out (by kernel_rfl)) (fun _ _ _ h => h) (Or.inl ⟨by rfl, ?_⟩) ?_ ?_
          rotate_left
          ·intro w'
           go_simp
           with_reducible rfl
          rotate_left
          ·simp only [Act.put, List.setIfInBounds_toArray, List.set_cons_zero, List.set_cons_succ, i64_w, i32_w]
           rfl
          refine pure_ (i := 15) (N := some 72) (v := ?_) (a' := ?_) #[true, true, true, true, true, true, true, true, true, true, true, true, false, false, false, true, false, false, false, false, false] rfl rfl (any_of HT_.out (by kernel_rfl)) (fun _ _ _ h => h) (Or.inl ⟨by rfl, ?_⟩) ?_ ?_
          rotate_left
          ·intro w'
           go_simp
           with_reducible rfl
          rotate_left
          ·simp only [Act.put, List.setIfInBounds_toArray, List.set_cons_zero, List.set_cons_succ, i64_w, i32_w]
           rfl
          refine take_ (i := 16) (N := some 73) (v := ?_) (a' := ?_) #[true, true, true, true, true, true, true, true, true, true, true, true, false, false, false, true, true, false, false, false, false] rfl rfl (take_ofW HT_.out HW_.out (by kernel_rfl)) (fun _ _ _ h => h) (Or.inl ⟨by rfl, ?_⟩) hHeld ?_ ?_
          rotate_left
          ·rintro w' ⟨s0, s1, s2, s3, s4, s5, s6⟩
           go_simp
           with_reducible rfl
          rotate_left
          ·simp only [Act.put, List.setIfInBounds_toArray, List.set_cons_zero, List.set_cons_succ, i64_w, i32_w]
           rfl
          refine take_ (i := 12) (N := some 69) (v := ?_) (a' := ?_) #[true, true, true, true, true, true, true, true, true, true, true, true, true, false, false, true, true, false, false, false, false] rfl rfl (take_ofW HT_.out HW_.out (by kernel_rfl)) (fun _ _ _ h => h) (Or.inl ⟨by rfl, ?_⟩) hHeld ?_ ?_
          rotate_left
          ·rintro w' ⟨s0, s1, s2, s3, s4, s5, s6⟩
           go_simp
           with_reducible rfl
          rotate_left
          ·simp only [Act.put, List.setIfInBounds_toArray, List.set_cons_zero, List.set_cons_succ, i64_w, i32_w]
           rfl
          refine one_ (i := 13) (N := some 70) #[true, true, true, true, true, true, true, true, true, true, true, true, true, true, false, true, true, false, false, false, false] rfl rfl (one_of HT_.out (by kernel_rfl)) (by decide) (fun K hK => ?_)
          refine goes_ Try.func22 (by kernel_rfl) rfl #[.agg #[.int .i64 t446, .int .i64 t447, .int .i64 t448, .int .i64 t449, .int .i64 t450]] (by rfl) rfl rfl (by (try simp only [List.map_toArray, List.map_cons, List.map_nil]); first | done | rfl | (simp only [List.length_drop, List.length_take]; rfl)) ?_
          with_reducible refine (impl_EncodeIns.calls kj21 t446 t447 t448 t449 t450 t458 _ A56.out).mono ?_
          rintro e w67 ⟨v459, rfl, ho0, hb⟩
          refine ⟨_, rfl, ?_⟩
          have n0_ := Aside0.mk (Kd.R_elder' (by exact HO444.out) (Kd.R_base ho0) hb)
          have n1_ := Aside0.mk (Kd.R_lower (Kd.R_new' ho0 (Kd.R_lt (by exact HO444.out))) (below_size (by repeat (first | (with_reducible first | exact HB.out | apply below_alloc | apply pw_below_drewN | apply below_drew1 | refine below_set ?_ GE419.out | refine below_set ?_ GE431.out | refine below_set ?_ GE451.out) | exact HB.out))))
          have n2_ := Aside0.mk (blk_below (g := gb419) (o := .cells #[.int .i64 t414, .int .i64 t415, .int .i64 t416, .int .i64 t417, .int .i64 t418] 41 (0, 0)) (by exact BK419.out) hb)
          have n3_ := Aside0.mk (blk_below (g := gb431) (o := .cells #[.bool t425, .int .i64 t426, .int .i64 t427, .int .i64 t428, .int .i64 t429, .int .i64 t430] 47 (0, 0)) (by exact BK431.out) hb)
          have n4_ := Aside0.mk (blk_below (g := gb451) (o := .cells #[.bool true, .int .i64 t446, .int .i64 t447, .int .i64 t448, .int .i64 t449, .int .i64 t450] 47 (0, 0)) (by exact BK451.out) hb)
          have n5_ := Aside0.mk (below_step (by repeat (first | (with_reducible first | exact HB.out | apply below_alloc | apply pw_below_drewN | apply below_drew1 | refine below_set ?_ GE419.out | refine below_set ?_ GE431.out | refine below_set ?_ GE451.out) | exact HB.out)) hb)
          clear HO444
          clear BK419
          clear BK431
          clear BK451
          clear HB
          have HO444 := n0_
          have HO460 := n1_
          have BK419 := n2_
          have BK431 := n3_
          have BK451 := n4_
          have HB := n5_
          clear n0_ n1_ n2_ n3_ n4_ n5_
          (try clear hb)
          (try clear hb2)
          (try clear hk)
          (try clear hi)
          (try clear ho0)
          have hcv69 := own_string (P := Try.prog) Try.underlying22 Try.underlying5 Try.underlying9 (Kd.own_of_R HO444.out)
          refine hK.out _ _ ⟨(blk_cell BK451.out 0).trans rfl, (blk_cell BK451.out 1).trans rfl, (blk_cell BK451.out 2).trans rfl, (blk_cell BK451.out 3).trans rfl, (blk_cell BK451.out 4).trans rfl, (blk_cell BK451.out 5).trans rfl, own_string (P := Try.prog) Try.underlying22 Try.underlying5 Try.underlying9 (Kd.own_of_R HO444.out)⟩ (fun hHeld => ?_)
          clear hK K
          refine norm_ (a' := ?_) ?_ ?_
          rotate_left
          ·show Act.put _ (some 70) _ = _
           simp only [Act.put, List.setIfInBounds_toArray, List.set_cons_zero, List.set_cons_succ, i64_w, i32_w]
           rfl
          refine one_ (i := 14) (N := some 71) #[true, true, true, true, true, true, true, true, true, true, true, true, true, true, true, true, true, false, false, false, false] rfl rfl (one_of HT_.out (by kernel_rfl)) (by decide) (fun K hK => ?_)
          have hcv68 := own_string (P := Try.prog) Try.underlying22 Try.underlying5 Try.underlying9 (Kd.own_of_R HO460.out)
          refine value_ (w1 := ?_) (v := ?_) (by rfl) rfl ?_ ?_
          rotate_left 2
          ·go_simp
           constructor
           ·rfl
           ·rfl
          clear hcv68
          refine hK.out _ _ ⟨(blk_cell BK451.out 0).trans rfl, (blk_cell BK451.out 1).trans rfl, (blk_cell BK451.out 2).trans rfl, (blk_cell BK451.out 3).trans rfl, (blk_cell BK451.out 4).trans rfl, (blk_cell BK451.out 5).trans rfl, own_string (P := Try.prog) Try.underlying22 Try.underlying5 Try.underlying9 (Kd.own_of_R HO444.out)⟩ (fun hHeld => ?_)
          clear hK K
          refine norm_ (a' := ?_) ?_ ?_
          rotate_left
          ·show Act.put _ (some 71) _ = _
           simp only [Act.put, List.setIfInBounds_toArray, List.set_cons_zero, List.set_cons_succ, i64_w, i32_w]
           rfl
          refine pure_ (i := 17) (N := some 74) (v := ?_) (a' := ?_) #[true, true, true, true, true, true, true, true, true, true, true, true, true, true, true, true, true, true, false, false, false] rfl rfl (any_of HT_.out (by kernel_rfl)) (fun _ _ _ h => h) (Or.inl ⟨by rfl, ?_⟩) ?_ ?_
          rotate_left
          ·intro w'
           go_simp
           with_reducible rfl
          rotate_left
          ·simp only [Act.put, List.setIfInBounds_toArray, List.set_cons_zero, List.set_cons_succ, i64_w, i32_w]
           rfl
          refine pure_ (i := 18) (N := some 75) (v := ?_) (a' := ?_) #[true, true, true, true, true, true, true, true, true, true, true, true, true, true, true, true, true, true, true, false, false] rfl rfl (any_of HT_.out (by kernel_rfl)) (fun _ _ _ h => h) (Or.inl ⟨by rfl, ?_⟩) ?_ ?_
          rotate_left
          ·intro w'
           go_simp
           with_reducible rfl
          rotate_left
          ·simp only [Act.put, List.setIfInBounds_toArray, List.set_cons_zero, List.set_cons_succ, i64_w, i32_w]
           rfl
          refine pure_ (i := 19) (N := some 76) (v := ?_) (a' := ?_) #[true, true, true, true, true, true, true, true, true, true, true, true, true, true, true, true, true, true, true, true, false] rfl rfl (any_of HT_.out (by kernel_rfl)) (fun _ _ _ h => h) (Or.inl ⟨by rfl, ?_⟩) ?_ ?_
          rotate_left
          ·intro w'
           go_simp
           with_reducible rfl
          rotate_left
          ·simp only [Act.put, List.setIfInBounds_toArray, List.set_cons_zero, List.set_cons_succ, i64_w, i32_w]
           rfl
          refine pure_ (i := 20) (N := some 4) (v := ?_) (a' := ?_) #[true, true, true, true, true, true, true, true, true, true, true, true, true, true, true, true, true, true, true, true, true] rfl rfl (any_of HT_.out (by kernel_rfl)) (fun _ _ _ h => h) (Or.inl ⟨by rfl, ?_⟩) ?_ ?_
          rotate_left
          ·intro w'
           go_simp
           with_reducible rfl
          rotate_left
          ·simp only [Act.put, List.setIfInBounds_toArray, List.set_cons_zero, List.set_cons_succ, i64_w, i32_w]
           rfl
          refine done_ (done_of HT_.out (by kernel_rfl)) ?_
          try go_wp2
          go_ret
          exact ⟨by first | rfl | (simp [*] <;> rfl), by repeat (first | (with_reducible first | exact HB.out | apply below_alloc | apply pw_below_drewN | apply below_drew1 | refine below_set ?_ GE419.out | refine below_set ?_ GE431.out | refine below_set ?_ GE451.out) | exact HB.out)⟩
         ·replace c55 := Bool.eq_false_iff.mpr c55
          subst c55
          rw [if_neg (show ¬ (false = true) by decide)] at H
          obtain rfl := Option.some.inj H
          try go_wp2_with (first | ((with_reducible refine gate_callee (f := 35) rfl ?_); refine goesL_ (some 54) rfl rfl Try.func35 (by kernel_rfl) rfl #[.slice A1 l1.length c1] rfl (by (try simp only [List.map_toArray, List.map_cons, List.map_nil]); first | done | rfl | (simp only [List.length_drop, List.length_take]; rfl)) ?_; (with_reducible refine (spec_DrawDecodeIns.calls kj21 _ _ l1 t442 _ ?side1 ?side2 A51.out).mono ?_); (case side1 => repeat (first | exact (Kd.C_below HR1.out HB.out) | (with_reducible refine Kd.C_alloc ?_ _) | (with_reducible refine Kd.C_drewN ?_ _) | (with_reducible refine Kd.C_drew ?_))); (case side2 => exact HC1.out); rintro e w71 ⟨v443, rfl, ho0, hb⟩; refine ⟨_, rfl, ?_⟩; have n0_ := Aside0.mk (Kd.R_lower ho0 (below_size (by repeat (first | (with_reducible first | exact HB.out | apply below_alloc | apply pw_below_drewN | apply below_drew1 | refine below_set ?_ GE419.out | refine below_set ?_ GE431.out) | exact HB.out)))); have n1_ := Aside0.mk (blk_below (g := gb419) (o := .cells #[.int .i64 t414, .int .i64 t415, .int .i64 t416, .int .i64 t417, .int .i64 t418] 41 (0, 0)) (by exact BK419.out) hb); have n2_ := Aside0.mk (blk_below (g := gb431) (o := .cells #[.bool t425, .int .i64 t426, .int .i64 t427, .int .i64 t428, .int .i64 t429, .int .i64 t430] 47 (0, 0)) (by exact BK431.out) hb); have n3_ := Aside0.mk (below_step (by repeat (first | (with_reducible first | exact HB.out | apply below_alloc | apply pw_below_drewN | apply below_drew1 | refine below_set ?_ GE419.out | refine below_set ?_ GE431.out) | exact HB.out)) hb); clear BK419; clear BK431; clear HB; have HO444 := n0_; have BK419 := n1_; have BK431 := n2_; have HB := n3_; clear n0_ n1_ n2_ n3_; (try clear hb); (try clear hb2); (try clear hk); (try clear hi); (try clear ho0); obtain ⟨Ao72, co72, eo72⟩ := Kd.R_slice HO444.out; subst eo72) | ((with_reducible refine gate_callee (f := 30) rfl ?_); refine goesL_ (some 56) rfl rfl Try.func30 (by kernel_rfl) rfl #[.slice Ao72 t442.length co72] rfl (by (try simp only [List.map_toArray, List.map_cons, List.map_nil]); first | done | rfl | (simp only [List.length_drop, List.length_take]; rfl)) ?_; (with_reducible refine (impl_DecodeIns.calls kj21 _ _ t442 false t446 t447 t448 t449 t450 _ ?side1 ?side2 A52.out).mono ?_); (case side1 => repeat (first | exact (Kd.R_reads' HO444.out).2.2 | (with_reducible refine Kd.C_alloc ?_ _) | (with_reducible refine Kd.C_drewN ?_ _) | (with_reducible refine Kd.C_drew ?_))); (case side2 => exact (Kd.R_reads' HO444.out).2.1); rintro e w73 ⟨rfl, hb⟩; refine ⟨_, rfl, ?_⟩; have n0_ := Aside0.mk (Kd.R_below (by exact HO444.out) hb); have n1_ := Aside0.mk (blk_below (g := gb419) (o := .cells #[.int .i64 t414, .int .i64 t415, .int .i64 t416, .int .i64 t417, .int .i64 t418] 41 (0, 0)) (by exact BK419.out) hb); have n2_ := Aside0.mk (blk_below (g := gb431) (o := .cells #[.bool t425, .int .i64 t426, .int .i64 t427, .int .i64 t428, .int .i64 t429, .int .i64 t430] 47 (0, 0)) (by exact BK431.out) hb); have n3_ := Aside0.mk (below_step (by repeat (first | (with_reducible first | exact HB.out | apply below_alloc | apply pw_below_drewN | apply below_drew1 | refine below_set ?_ GE419.out | refine below_set ?_ GE431.out) | exact HB.out)) hb); clear HO444; clear BK419; clear BK431; clear HB; have HO444 := n0_; have BK419 := n1_; have BK431 := n2_; have HB := n3_; clear n0_ n1_ n2_ n3_; (try clear hb); (try clear hb2); (try clear hk); (try clear hi)) | ((with_reducible refine gate_dst (N := 9) rfl ?_); (try (refine gate_guard (by rfl) ?_; dsimp only)); refine box_event ?hg (N := 9) ?hd (cs := #[.bool false, .int .i64 0, .int .i64 0, .int .i64 0, .int .i64 0, .int .i64 0]) (t := 47) ?hr ?_; (case hd => rfl); (case hg => rfl); (case hr => first | (go_simp; done) | (go_simp; rfl)); intro gb451 hg w74 hbox hb; have n0_ := Aside0.mk (Kd.R_below (by exact HO444.out) hb); have n1_ := Aside0.mk (blk_below (g := gb419) (o := .cells #[.int .i64 t414, .int .i64 t415, .int .i64 t416, .int .i64 t417, .int .i64 t418] 41 (0, 0)) (by exact BK419.out) hb); have n2_ := Aside0.mk (blk_below (g := gb431) (o := .cells #[.bool t425, .int .i64 t426, .int .i64 t427, .int .i64 t428, .int .i64 t429, .int .i64 t430] 47 (0, 0)) (by exact BK431.out) hb); have n3_ := Aside0.mk (below_step (by repeat (first | (with_reducible first | exact HB.out | apply below_alloc | apply pw_below_drewN | apply below_drew1 | refine below_set ?_ GE419.out | refine below_set ?_ GE431.out) | exact HB.out)) hb); have n4_ := Aside0.mk (hbox); have n5_ := Aside0.mk ((by rw [hg]; exact (below_size (by repeat (first | (with_reducible first | exact HB.out | apply below_alloc | apply pw_below_drewN | apply below_drew1 | refine below_set ?_ GE419.out | refine below_set ?_ GE431.out) | exact HB.out))) : w.heap.size ≤ gb451)); have n6_ := Aside0.mk ((by rw [hg]; exact (below_size (by repeat (first | (with_reducible first | exact HB.out | apply below_alloc | apply pw_below_drewN | apply below_drew1 | refine below_set ?_ GE419.out | refine below_set ?_ GE431.out) | exact HB.out))) : w.heap.size ≤ gb451)); have n7_ := Aside0.mk ((by rw [hg]; exact Nat.ne_of_lt (blk_lt (g := gb419) (o := .cells #[.int .i64 t414, .int .i64 t415, .int .i64 t416, .int .i64 t417, .int .i64 t418] 41 (0, 0)) (by exact BK419.out)) : gb419 ≠ gb451)); have n8_ := Aside0.mk ((by rw [hg]; exact Nat.ne_of_gt (blk_lt (g := gb419) (o := .cells #[.int .i64 t414, .int .i64 t415, .int .i64 t416, .int .i64 t417, .int .i64 t418] 41 (0, 0)) (by exact BK419.out)) : gb451 ≠ gb419)); have n9_ := Aside0.mk ((by rw [hg]; exact Nat.ne_of_lt (blk_lt (g := gb431) (o := .cells #[.bool t425, .int .i64 t426, .int .i64 t427, .int .i64 t428, .int .i64 t429, .int .i64 t430] 47 (0, 0)) (by exact BK431.out)) : gb431 ≠ gb451)); have n10_ := Aside0.mk ((by rw [hg]; exact Nat.ne_of_gt (blk_lt (g := gb431) (o := .cells #[.bool t425, .int .i64 t426, .int .i64 t427, .int .i64 t428, .int .i64 t429, .int .i64 t430] 47 (0, 0)) (by exact BK431.out)) : gb451 ≠ gb431)); clear HO444; clear BK419; clear BK431; clear HB; have HO444 := n0_; have BK419 := n1_; have BK431 := n2_; have HB := n3_; have BK451 := n4_; have GW451 := n5_; have GE451 := n6_; have NB419_451 := n7_; have NB451_419 := n8_; have NB431_451 := n9_; have NB451_431 := n10_; clear n0_ n1_ n2_ n3_ n4_ n5_ n6_ n7_ n8_ n9_ n10_; clear hb hbox hg; have hnb75 := NB451_419.out; have hnc75 := NB419_451.out; have hnb76 := NB451_431.out; have hnc76 := NB431_451.out; have hcz77_0 : w74.cell? ⟨gb451, 0, none⟩ = some (.bool false) := (blk_cell BK451.out 0).trans rfl; have hcz77_1 : w74.cell? ⟨gb451, 1, none⟩ = some (.int .i64 0) := (blk_cell BK451.out 1).trans rfl; have hcz77_2 : w74.cell? ⟨gb451, 2, none⟩ = some (.int .i64 0) := (blk_cell BK451.out 2).trans rfl; have hcz77_3 : w74.cell? ⟨gb451, 3, none⟩ = some (.int .i64 0) := (blk_cell BK451.out 3).trans rfl; have hcz77_4 : w74.cell? ⟨gb451, 4, none⟩ = some (.int .i64 0) := (blk_cell BK451.out 4).trans rfl; have hcz77_5 : w74.cell? ⟨gb451, 5, none⟩ = some (.int .i64 0) := (blk_cell BK451.out 5).trans rfl; have hfz77_0 := blk_frozen BK451.out 0; have hfz77_1 := blk_frozen BK451.out 1; have hfz77_2 := blk_frozen BK451.out 2; have hfz77_3 := blk_frozen BK451.out 3; have hfz77_4 := blk_frozen BK451.out 4; have hfz77_5 := blk_frozen BK451.out 5))
          have n0_ : Aside0 (Kd.R (Kd.int .u8) 5 ((((((w74.setCell ⟨gb451, 0, none⟩ (.bool false)).setCell ⟨gb451, 1, none⟩ (.int .i64 t446)).setCell ⟨gb451, 2, none⟩ (.int .i64 t447)).setCell ⟨gb451, 3, none⟩ (.int .i64 t448)).setCell ⟨gb451, 4, none⟩ (.int .i64 t449)).setCell ⟨gb451, 5, none⟩ (.int .i64 t450)) w.heap.size (fun _ => True) (.slice Ao72 t442.length co72) t442) := ⟨by exact Kd.R_mono (Kd.R_far (p := ⟨gb451, 5, none⟩) (Kd.R_far (p := ⟨gb451, 4, none⟩) (Kd.R_far (p := ⟨gb451, 3, none⟩) (Kd.R_far (p := ⟨gb451, 2, none⟩) (Kd.R_far (p := ⟨gb451, 1, none⟩) (Kd.R_far (p := ⟨gb451, 0, none⟩) (Kd.R_types HO444.out BK451.out (by decide)) (fun _ hk => hk.2) (.bool false)) (fun _ hk => hk.2) (.int .i64 t446)) (fun _ hk => hk.2) (.int .i64 t447)) (fun _ hk => hk.2) (.int .i64 t448)) (fun _ hk => hk.2) (.int .i64 t449)) (fun _ hk => hk.2) (.int .i64 t450)) (fun _ hk => trivial)⟩
          have n1_ : Aside0 (((((((w74.setCell ⟨gb451, 0, none⟩ (.bool false)).setCell ⟨gb451, 1, none⟩ (.int .i64 t446)).setCell ⟨gb451, 2, none⟩ (.int .i64 t447)).setCell ⟨gb451, 3, none⟩ (.int .i64 t448)).setCell ⟨gb451, 4, none⟩ (.int .i64 t449)).setCell ⟨gb451, 5, none⟩ (.int .i64 t450)).heap[gb419]? = some (.cells #[.int .i64 t414, .int .i64 t415, .int .i64 t416, .int .i64 t417, .int .i64 t418] 41 (0, 0))) := ⟨by refine blk_far ?_ NB419_451.out _; refine blk_far ?_ NB419_451.out _; refine blk_far ?_ NB419_451.out _; refine blk_far ?_ NB419_451.out _; refine blk_far ?_ NB419_451.out _; refine blk_far ?_ NB419_451.out _; exact BK419.out⟩
          have n2_ : Aside0 (((((((w74.setCell ⟨gb451, 0, none⟩ (.bool false)).setCell ⟨gb451, 1, none⟩ (.int .i64 t446)).setCell ⟨gb451, 2, none⟩ (.int .i64 t447)).setCell ⟨gb451, 3, none⟩ (.int .i64 t448)).setCell ⟨gb451, 4, none⟩ (.int .i64 t449)).setCell ⟨gb451, 5, none⟩ (.int .i64 t450)).heap[gb431]? = some (.cells #[.bool t425, .int .i64 t426, .int .i64 t427, .int .i64 t428, .int .i64 t429, .int .i64 t430] 47 (0, 0))) := ⟨by refine blk_far ?_ NB431_451.out _; refine blk_far ?_ NB431_451.out _; refine blk_far ?_ NB431_451.out _; refine blk_far ?_ NB431_451.out _; refine blk_far ?_ NB431_451.out _; refine blk_far ?_ NB431_451.out _; exact BK431.out⟩
          have n3_ : Aside0 (((((((w74.setCell ⟨gb451, 0, none⟩ (.bool false)).setCell ⟨gb451, 1, none⟩ (.int .i64 t446)).setCell ⟨gb451, 2, none⟩ (.int .i64 t447)).setCell ⟨gb451, 3, none⟩ (.int .i64 t448)).setCell ⟨gb451, 4, none⟩ (.int .i64 t449)).setCell ⟨gb451, 5, none⟩ (.int .i64 t450)).heap[gb451]? = some (.cells #[.bool false, .int .i64 t446, .int .i64 t447, .int .i64 t448, .int .i64 t449, .int .i64 t450] 47 (0, 0))) := ⟨by refine blk_put (cs := #[.bool false, .int .i64 t446, .int .i64 t447, .int .i64 t448, .int .i64 t449, .int .i64 0]) ?_ 5 _ rfl; refine blk_put (cs := #[.bool false, .int .i64 t446, .int .i64 t447, .int .i64 t448, .int .i64 0, .int .i64 0]) ?_ 4 _ rfl; refine blk_put (cs := #[.bool false, .int .i64 t446, .int .i64 t447, .int .i64 0, .int .i64 0, .int .i64 0]) ?_ 3 _ rfl; refine blk_put (cs := #[.bool false, .int .i64 t446, .int .i64 0, .int .i64 0, .int .i64 0, .int .i64 0]) ?_ 2 _ rfl; refine blk_put (cs := #[.bool false, .int .i64 0, .int .i64 0, .int .i64 0, .int .i64 0, .int .i64 0]) ?_ 1 _ rfl; refine blk_put (cs := #[.bool false, .int .i64 0, .int .i64 0, .int .i64 0, .int .i64 0, .int .i64 0]) ?_ 0 _ rfl; exact BK451.out⟩
          have n4_ : Aside0 (Below w.heap.size w ((((((w74.setCell ⟨gb451, 0, none⟩ (.bool false)).setCell ⟨gb451, 1, none⟩ (.int .i64 t446)).setCell ⟨gb451, 2, none⟩ (.int .i64 t447)).setCell ⟨gb451, 3, none⟩ (.int .i64 t448)).setCell ⟨gb451, 4, none⟩ (.int .i64 t449)).setCell ⟨gb451, 5, none⟩ (.int .i64 t450))) := ⟨by repeat (first | (with_reducible first | exact HB.out | apply below_alloc | apply pw_below_drewN | apply below_drew1 | refine below_set ?_ GE419.out | refine below_set ?_ GE431.out | refine below_set ?_ GE451.out) | exact HB.out)⟩
          (try clear HO444)
          (try clear BK419)
          (try clear BK431)
          (try clear BK451)
          (try clear HB)
          generalize ((((((w74.setCell ⟨gb451, 0, none⟩ (.bool false)).setCell ⟨gb451, 1, none⟩ (.int .i64 t446)).setCell ⟨gb451, 2, none⟩ (.int .i64 t447)).setCell ⟨gb451, 3, none⟩ (.int .i64 t448)).setCell ⟨gb451, 4, none⟩ (.int .i64 t449)).setCell ⟨gb451, 5, none⟩ (.int .i64 t450)) = w78 at n0_ n1_ n2_ n3_ n4_ ⊢
          have HO444 := n0_
          have BK419 := n1_
          have BK431 := n2_
          have BK451 := n3_
          have HB := n4_
          clear n0_ n1_ n2_ n3_ n4_
          have n0_ := Aside0.mk (Kd.R_drew HO444.out)
          have n1_ := Aside0.mk (blk_drew BK419.out)
          have n2_ := Aside0.mk (blk_drew BK431.out)
          have n3_ := Aside0.mk (blk_drew BK451.out)
          have n4_ := Aside0.mk (below_drew1 HB.out)
          clear HO444
          clear BK419
          clear BK431
          clear BK451
          clear HB
          have HO444 := n0_
          have BK419 := n1_
          have BK431 := n2_
          have BK451 := n3_
          have HB := n4_
          clear n0_ n1_ n2_ n3_ n4_
          have hfd_ : ∀ w_ : World, (Instr.field 47 (.agg #[.bool t452, .int .i64 t453, .int .i64 t454, .int .i64 t455, .int .i64 t456, .int .i64 t457]) 0).run Try.prog w_ = .ok (.bool t452) w_ := fun _ => by kernel_rfl
          refine start_ (n := 21) (S := fun w' => w'.cell? ⟨gb451, 0, none⟩ = some (.bool false) ∧ w'.cell? ⟨gb451, 1, none⟩ = some (.int .i64 t446) ∧ w'.cell? ⟨gb451, 2, none⟩ = some (.int .i64 t447) ∧ w'.cell? ⟨gb451, 3, none⟩ = some (.int .i64 t448) ∧ w'.cell? ⟨gb451, 4, none⟩ = some (.int .i64 t449) ∧ w'.cell? ⟨gb451, 5, none⟩ = some (.int .i64 t450)) (ds := []) #[false, false, false, false, false, false, false, false, false, false, false, false, false, false, false, false, false, false, false, false, false] (by kernel_rfl) rfl rfl ⟨(blk_cell BK451.out 0).trans rfl, (blk_cell BK451.out 1).trans rfl, (blk_cell BK451.out 2).trans rfl, (blk_cell BK451.out 3).trans rfl, (blk_cell BK451.out 4).trans rfl, (blk_cell BK451.out 5).trans rfl⟩ (fun hHeld => ?_); refine with_tabW laws_FnIns.tab12 laws_FnIns.bits12 (fun HT_ HW_ => ?_)
          generalize w78.drew = w79 at HO444 BK419 BK431 BK451 HB hHeld ⊢
          refine pure_ (i := 0) (N := some 57) (v := ?_) (a' := ?_) #[true, false, false, false, false, false, false, false, false, false, false, false, false, false, false, false, false, false, false, false, false] rfl rfl (any_of HT_.out (by kernel_rfl)) (fun _ _ _ h => h) (Or.inl ⟨by rfl, ?_⟩) ?_ ?_
          rotate_left
          ·intro w'
           go_simp
           with_reducible rfl
          rotate_left
          ·simp only [Act.put, List.setIfInBounds_toArray, List.set_cons_zero, List.set_cons_succ, i64_w, i32_w]
           rfl
          refine pure_ (i := 2) (N := some 59) (v := ?_) (a' := ?_) #[true, false, true, false, false, false, false, false, false, false, false, false, false, false, false, false, false, false, false, false, false] rfl rfl (any_of HT_.out (by kernel_rfl)) (fun _ _ _ h => h) (Or.inl ⟨by rfl, ?_⟩) ?_ ?_
          rotate_left
          ·intro w'
           go_simp
           with_reducible rfl
          rotate_left
          ·simp only [Act.put, List.setIfInBounds_toArray, List.set_cons_zero, List.set_cons_succ, i64_w, i32_w]
           rfl
          refine take_ (i := 1) (N := some 58) (v := ?_) (a' := ?_) #[true, true, true, false, false, false, false, false, false, false, false, false, false, false, false, false, false, false, false, false, false] rfl rfl (take_ofW HT_.out HW_.out (by kernel_rfl)) (fun _ _ _ h => h) (Or.inl ⟨by rfl, ?_⟩) hHeld ?_ ?_
          rotate_left
          ·rintro w' ⟨s0, s1, s2, s3, s4, s5⟩
           go_simp
           with_reducible rfl
          rotate_left
          ·simp only [Act.put, List.setIfInBounds_toArray, List.set_cons_zero, List.set_cons_succ, i64_w, i32_w]
           rfl
          refine one_ (i := 3) (N := some 60) #[true, true, true, true, false, false, false, false, false, false, false, false, false, false, false, false, false, false, false, false, false] rfl rfl (one_of HT_.out (by kernel_rfl)) (by decide) (fun K hK => ?_)
          refine goes_ Try.func28 (by kernel_rfl) rfl #[.slice Ao72 t442.length co72] (by rfl) rfl rfl (by (try simp only [List.map_toArray, List.map_cons, List.map_nil]); first | done | rfl | (simp only [List.length_drop, List.length_take]; rfl)) ?_
          with_reducible refine (spec_DecodeIns.calls kj21 _ _ t442 t452 t453 t454 t455 t456 t457 _ ?side1 ?side2 A53.out).mono ?_
          (case side1 => repeat (first | exact (Kd.R_reads' HO444.out).2.2 | (with_reducible refine Kd.C_alloc ?_ _) | (with_reducible refine Kd.C_drewN ?_ _) | (with_reducible refine Kd.C_drew ?_)))
          (case side2 => exact (Kd.R_reads' HO444.out).2.1)
          rintro e w80 ⟨rfl, hb⟩
          refine ⟨_, rfl, ?_⟩
          have n0_ := Aside0.mk (Kd.R_below (by exact HO444.out) hb)
          have n1_ := Aside0.mk (blk_below (g := gb419) (o := .cells #[.int .i64 t414, .int .i64 t415, .int .i64 t416, .int .i64 t417, .int .i64 t418] 41 (0, 0)) (by exact BK419.out) hb)
          have n2_ := Aside0.mk (blk_below (g := gb431) (o := .cells #[.bool t425, .int .i64 t426, .int .i64 t427, .int .i64 t428, .int .i64 t429, .int .i64 t430] 47 (0, 0)) (by exact BK431.out) hb)
          have n3_ := Aside0.mk (blk_below (g := gb451) (o := .cells #[.bool false, .int .i64 t446, .int .i64 t447, .int .i64 t448, .int .i64 t449, .int .i64 t450] 47 (0, 0)) (by exact BK451.out) hb)
          have n4_ := Aside0.mk (below_step (by repeat (first | (with_reducible first | exact HB.out | apply below_alloc | apply pw_below_drewN | apply below_drew1 | refine below_set ?_ GE419.out | refine below_set ?_ GE431.out | refine below_set ?_ GE451.out) | exact HB.out)) hb)
          clear HO444
          clear BK419
          clear BK431
          clear BK451
          clear HB
          have HO444 := n0_
          have BK419 := n1_
          have BK431 := n2_
          have BK451 := n3_
          have HB := n4_
          clear n0_ n1_ n2_ n3_ n4_
          (try clear hb)
          (try clear hb2)
          (try clear hk)
          (try clear hi)
          refine hK.out _ _ ⟨(blk_cell BK451.out 0).trans rfl, (blk_cell BK451.out 1).trans rfl, (blk_cell BK451.out 2).trans rfl, (blk_cell BK451.out 3).trans rfl, (blk_cell BK451.out 4).trans rfl, (blk_cell BK451.out 5).trans rfl⟩ (fun hHeld => ?_)
          clear hK K
          refine norm_ (a' := ?_) ?_ ?_
          rotate_left
          ·show Act.put _ (some 60) _ = _
           simp only [Act.put, List.setIfInBounds_toArray, List.set_cons_zero, List.set_cons_succ, i64_w, i32_w]
           rfl
          refine pure_ (i := 4) (N := some 61) (v := ?_) (a' := ?_) #[true, true, true, true, true, false, false, false, false, false, false, false, false, false, false, false, false, false, false, false, false] rfl rfl (any_of HT_.out (by kernel_rfl)) (fun _ _ _ h => h) (Or.inl ⟨by rfl, ?_⟩) ?_ ?_
          rotate_left
          ·intro w'
           go_simp
           with_reducible rfl
          rotate_left
          ·simp only [Act.put, List.setIfInBounds_toArray, List.set_cons_zero, List.set_cons_succ, i64_w, i32_w]
           rfl
          refine pure_ (i := 5) (N := some 62) (v := ?_) (a' := ?_) #[true, true, true, true, true, true, false, false, false, false, false, false, false, false, false, false, false, false, false, false, false] rfl rfl (any_of HT_.out (by kernel_rfl)) (fun _ _ _ h => h) (Or.inl ⟨by rfl, ?_⟩) ?_ ?_
          rotate_left
          ·intro w'
           go_simp
           with_reducible rfl
          rotate_left
          ·simp only [Act.put, List.setIfInBounds_toArray, List.set_cons_zero, List.set_cons_succ, i64_w, i32_w]
           rfl
          refine pure_ (i := 6) (N := some 63) (v := ?_) (a' := ?_) #[true, true, true, true, true, true, true, false, false, false, false, false, false, false, false, false, false, false, false, false, false] rfl rfl (any_of HT_.out (by kernel_rfl)) (fun _ _ _ h => h) (Or.inl ⟨by rfl, ?_⟩) ?_ ?_
          rotate_left
          ·intro w'
           go_simp
           with_reducible rfl
          rotate_left
          ·simp only [Act.put, List.setIfInBounds_toArray, List.set_cons_zero, List.set_cons_succ, i64_w, i32_w]
           rfl
          refine pure_ (i := 7) (N := some 64) (v := ?_) (a' := ?_) #[true, true, true, true, true, true, true, true, false, false, false, false, false, false, false, false, false, false, false, false, false] rfl rfl (any_of HT_.out (by kernel_rfl)) (fun _ _ _ h => h) (Or.inl ⟨by rfl, ?_⟩) ?_ ?_
          rotate_left
          ·intro w'
           go_simp
           with_reducible rfl
          rotate_left
          ·simp only [Act.put, List.setIfInBounds_toArray, List.set_cons_zero, List.set_cons_succ, i64_w, i32_w]
           rfl
          refine take_ (i := 8) (N := some 65) (v := ?_) (a' := ?_) #[true, true, true, true, true, true, true, true, true, false, false, false, false, false, false, false, false, false, false, false, false] rfl rfl (take_ofW HT_.out HW_.out (by kernel_rfl)) (fun _ _ _ h => h) (Or.inl ⟨by rfl, ?_⟩) hHeld ?_ ?_
          rotate_left
          ·rintro w' ⟨s0, s1, s2, s3, s4, s5⟩
           go_simp
           with_reducible rfl
          rotate_left
          ·simp only [Act.put, List.setIfInBounds_toArray, List.set_cons_zero, List.set_cons_succ, i64_w, i32_w]
           rfl
          refine pure_ (i := 9) (N := some 66) (v := ?_) (a' := ?_) #[true, true, true, true, true, true, true, true, true, true, false, false, false, false, false, false, false, false, false, false, false] rfl rfl (any_of HT_.out (by kernel_rfl)) (fun _ _ _ h => h) (Or.inl ⟨by rfl, ?_⟩) ?_ ?_
          rotate_left
          ·intro w'
           go_simp
           with_reducible rfl
          rotate_left
          ·simp only [Act.put, List.setIfInBounds_toArray, List.set_cons_zero, List.set_cons_succ, i64_w, i32_w]
           rfl
          refine pure_ (i := 10) (N := some 67) (v := ?_) (a' := ?_) #[true, true, true, true, true, true, true, true, true, true, true, false, false, false, false, false, false, false, false, false, false] rfl rfl (any_of HT_.out (by kernel_rfl)) (fun _ _ _ h => h) (Or.inl ⟨by rfl, ?_⟩) ?_ ?_
          rotate_left
          ·intro w'
           go_simp
           with_reducible rfl
          rotate_left
          ·simp only [Act.put, List.setIfInBounds_toArray, List.set_cons_zero, List.set_cons_succ, i64_w, i32_w]
           rfl
          refine pure_ (i := 11) (N := some 68) (v := undef) (a' := ?_) #[true, true, true, true, true, true, true, true, true, true, true, true, false, false, false, false, false, false, false, false, false] rfl rfl (any_of HT_.out (by kernel_rfl)) (fun _ _ _ h => h) (Or.inr ⟨by rfl, rfl⟩) ?_ ?_
          rotate_left
          ·simp only [Act.put, List.setIfInBounds_toArray, List.set_cons_zero, List.set_cons_succ, i64_w, i32_w]
           rfl
          refine pure_ (i := 12) (N := some 69) (v := undef) (a' := ?_) #[true, true, true, true, true, true, true, true, true, true, true, true, true, false, false, false, false, false, false, false, false] rfl rfl (any_of HT_.out (by kernel_rfl)) (fun _ _ _ h => h) (Or.inr ⟨by rfl, rfl⟩) ?_ ?_
          rotate_left
          ·simp only [Act.put, List.setIfInBounds_toArray, List.set_cons_zero, List.set_cons_succ, i64_w, i32_w]
           rfl
          refine pure_ (i := 13) (N := some 70) (v := undef) (a' := ?_) #[true, true, true, true, true, true, true, true, true, true, true, true, true, true, false, false, false, false, false, false, false] rfl rfl (any_of HT_.out (by kernel_rfl)) (fun _ _ _ h => h) (Or.inr ⟨by rfl, rfl⟩) ?_ ?_
          rotate_left
          ·simp only [Act.put, List.setIfInBounds_toArray, List.set_cons_zero, List.set_cons_succ, i64_w, i32_w]
           rfl
          refine pure_ (i := 14) (N := some 71) (v := undef) (a' := ?_) #[true, true, true, true, true, true, true, true, true, true, true, true, true, true, true, false, false, false, false, false, false] rfl rfl (any_of HT_.out (by kernel_rfl)) (fun _ _ _ h => h) (Or.inr ⟨by rfl, rfl⟩) ?_ ?_
          rotate_left
          ·simp only [Act.put, List.setIfInBounds_toArray, List.set_cons_zero, List.set_cons_succ, i64_w, i32_w]
           rfl
          refine pure_ (i := 15) (N := some 72) (v := undef) (a' := ?_) #[true, true, true, true, true, true, true, true, true, true, true, true, true, true, true, true, false, false, false, false, false] rfl rfl (any_of HT_.out (by kernel_rfl)) (fun _ _ _ h => h) (Or.inr ⟨by rfl, rfl⟩) ?_ ?_
          rotate_left
          ·simp only [Act.put, List.setIfInBounds_toArray, List.set_cons_zero, List.set_cons_succ, i64_w, i32_w]
           rfl
          refine pure_ (i := 16) (N := some 73) (v := undef) (a' := ?_) #[true, true, true, true, true, true, true, true, true, true, true, true, true, true, true, true, true, false, false, false, false] rfl rfl (any_of HT_.out (by kernel_rfl)) (fun _ _ _ h => h) (Or.inr ⟨by rfl, rfl⟩) ?_ ?_
          rotate_left
          ·simp only [Act.put, List.setIfInBounds_toArray, List.set_cons_zero, List.set_cons_succ, i64_w, i32_w]
           rfl
          refine pure_ (i := 17) (N := some 74) (v := undef) (a' := ?_) #[true, true, true, true, true, true, true, true, true, true, true, true, true, true, true, true, true, true, false, false, false] rfl rfl (any_of HT_.out (by kernel_rfl)) (fun _ _ _ h => h) (Or.inr ⟨by rfl, rfl⟩) ?_ ?_
          rotate_left
          ·simp only [Act.put, List.setIfInBounds_toArray, List.set_cons_zero, List.set_cons_succ, i64_w, i32_w]
           rfl
          refine pure_ (i := 18) (N := some 75) (v := ?_) (a' := ?_) #[true, true, true, true, true, true, true, true, true, true, true, true, true, true, true, true, true, true, true, false, false] rfl rfl (any_of HT_.out (by kernel_rfl)) (fun _ _ _ h => h) (Or.inl ⟨by rfl, ?_⟩) ?_ ?_
          rotate_left
          ·intro w'
           go_simp
           with_reducible rfl
          rotate_left
          ·simp only [Act.put, List.setIfInBounds_toArray, List.set_cons_zero, List.set_cons_succ, i64_w, i32_w]
           rfl
          refine pure_ (i := 19) (N := some 76) (v := ?_) (a' := ?_) #[true, true, true, true, true, true, true, true, true, true, true, true, true, true, true, true, true, true, true, true, false] rfl rfl (any_of HT_.out (by kernel_rfl)) (fun _ _ _ h => h) (Or.inl ⟨by rfl, ?_⟩) ?_ ?_
          rotate_left
          ·intro w'
           go_simp
           with_reducible rfl
          rotate_left
          ·simp only [Act.put, List.setIfInBounds_toArray, List.set_cons_zero, List.set_cons_succ, i64_w, i32_w]
           rfl
          refine pure_ (i := 20) (N := some 4) (v := ?_) (a' := ?_) #[true, true, true, true, true, true, true, true, true, true, true, true, true, true, true, true, true, true, true, true, true] rfl rfl (any_of HT_.out (by kernel_rfl)) (fun _ _ _ h => h) (Or.inl ⟨by rfl, ?_⟩) ?_ ?_
          rotate_left
          ·intro w'
           go_simp
           with_reducible rfl
          rotate_left
          ·simp only [Act.put, List.setIfInBounds_toArray, List.set_cons_zero, List.set_cons_succ, i64_w, i32_w]
           rfl
          refine done_ (done_of HT_.out (by kernel_rfl)) ?_
          try go_wp2
          go_ret
          exact ⟨by first | rfl | (simp [*] <;> rfl), by repeat (first | (with_reducible first | exact HB.out | apply below_alloc | apply pw_below_drewN | apply below_drew1 | refine below_set ?_ GE419.out | refine below_set ?_ GE431.out | refine below_set ?_ GE451.out) | exact HB.out)⟩
        ·rw [if_neg c54] at H
         have c54b0 : (t445 == t452) = false := by simpa using c54
         (try (have c54b1 : decide (t445 = t452) = false := by simpa using c54))
         (try (have c54b2 : (t445 == t452) = false := by simpa using c54))
         (try (have c54b3 : ¬ (t445 = t452) := by simpa using c54))
         clear c54
         obtain rfl := Option.some.inj H
         exact absurd hlaw.out (by simp)

/-- THE ONE PURE STATEMENT of laws_FnIns: yours. -/
def laws_FnIns.Pure : Prop := ∀ (l0 : List Int) (l1 : List Int), l0.length ≤ maxLen → l0.length * 1 ≤ 140737488351232 → (∀ x ∈ l0, (Lit.int .u8 x).wf = true) → l1.length ≤ maxLen → l1.length * 1 ≤ 140737488351232 → (∀ x ∈ l1, (Lit.int .u8 x).wf = true) → ∃ k, laws_FnIns.f k l0 l1 = some true
theorem laws_FnIns.walk (P : laws_FnIns.Pure) (a0 : Option Addr) (len0 cap0 : Nat) (z0 : List Int) (a1 : Option Addr) (len1 cap1 : Nat) (z1 : List Int) (w : World) (w0 : (a0 = none ∧ len0 = 0 ∧ cap0 = 0 ∧ z0 = []) ∨ ∃ x, a0 = some x ∧ len0 ≤ cap0 ∧ cap0 ≤ maxLen ∧ z0.length = cap0 ∧ (∀ i, i < z0.length → w.cell? (x.add i) = some (.int .u8 (z0.getD i 0))) ∧ ∀ n ∈ z0, (Lit.int .u8 n).wf = true) (y0 : len0 * 1 ≤ 140737488351232) (w1 : (a1 = none ∧ len1 = 0 ∧ cap1 = 0 ∧ z1 = []) ∨ ∃ x, a1 = some x ∧ len1 ≤ cap1 ∧ cap1 ≤ maxLen ∧ z1.length = cap1 ∧ (∀ i, i < z1.length → w.cell? (x.add i) = some (.int .u8 (z1.getD i 0))) ∧ ∀ n ∈ z1, (Lit.int .u8 n).wf = true) (y1 : len1 * 1 ≤ 140737488351232) :
    Calls Try.prog 8 #[.slice a0 len0 cap0, .slice a1 len1 cap1] w fun e w' => e = .returned (.bool true) ∧ Below w.heap.size w w' := by
 obtain ⟨l0, rfl, hr0, hm0, hw0, hc0⟩ := ReadsInt.ofRowC w0
 obtain ⟨l1, rfl, hr1, hm1, hw1, hc1⟩ := ReadsInt.ofRowC w1
 obtain ⟨k, h⟩ := P l0 l1 hm0 y0 hw0 hm1 y1 hw1
 refine (laws_FnIns.calls k _ _ l0 _ _ l1 true w (Kd.C_of_reads (d := (0 : Int)) (h1 := fun _ => rfl) hr0) hc0 (Kd.C_of_reads (d := (0 : Int)) (h1 := fun _ => rfl) hr1) hc1 h ⟨rfl⟩).mono ?_
 rintro e w' ⟨rfl, hd⟩
 exact ⟨rfl, hd⟩

end Go.Proofs.Ytcjdgimiobhhnaa.QFnIns
