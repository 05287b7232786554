-- written by mp.py, a program of this session, over the translation; Lean checks it
import Derived.Test.YtcjdgimiobhhnaaQFnInsx0
import Derived.Test.YtcjdgimiobhhnaaQFnInsx2
namespace Go.Proofs.Ytcjdgimiobhhnaa.QFnIns
open Go.RowKit Go.Proofs.YtcjdgimiobhhnaaW.PrintWords Go.Proofs.YtcjdgimiobhhnaaW.PrintLast Go.Proofs.YtcjdgimiobhhnaaW.PrintMore
attribute [local go_sem] max2_int min2_int max_two min_two max_three min_three max_four min_four   -- for this text's walks alone
set_option linter.unusedVariables false
set_option linter.unusedSimpArgs false

/-! ### impl_DecodeIns: function 30 -/
def impl_DecodeIns.f (k : Nat) (l0 : List Int) : Option (Bool × Int × Int × Int × Int × Int) := if (l0.length : Int) = 8 then (if 4 < (l0.length : Int) then (if 5 < (l0.length : Int) then (if 6 < (l0.length : Int) then (if 7 < (l0.length : Int) then (if 0 < (l0.length : Int) then (if 1 < (l0.length : Int) then (if 2 < (l0.length : Int) then (if 3 < (l0.length : Int) then ((impl_InsFault.f k (wrap64 (rd l0 0)) (wrap64 (rd l0 1)) (wrap64 (rd l0 2)) (wrap64 (rd l0 3)) (wrap64 (wrap32 (Go.bits .or .u32 (Go.bits .or .u32 (Go.bits .or .u32 ((rd l0 4) % 4294967296) ((((rd l0 5) % 4294967296) * 256) % 4294967296)) ((((rd l0 6) % 4294967296) * 65536) % 4294967296)) ((((rd l0 7) % 4294967296) * 16777216) % 4294967296))))).bind fun t163 => (if t163 = true then (some (false, 0, 0, 0, 0, 0)) else (some (true, wrap64 (rd l0 0), wrap64 (rd l0 1), wrap64 (rd l0 2), wrap64 (rd l0 3), wrap64 (wrap32 (Go.bits .or .u32 (Go.bits .or .u32 (Go.bits .or .u32 ((rd l0 4) % 4294967296) ((((rd l0 5) % 4294967296) * 256) % 4294967296)) ((((rd l0 6) % 4294967296) * 65536) % 4294967296)) ((((rd l0 7) % 4294967296) * 16777216) % 4294967296))))))) else (none)) else (none)) else (none)) else (none)) else (none)) else (none)) else (none)) else (none)) else (some (false, 0, 0, 0, 0, 0))
theorem impl_DecodeIns.mono : ∀ a0 k, LeO (impl_DecodeIns.f k a0) (impl_DecodeIns.f (k + 1) a0) := by
 intro a0 k
 unfold impl_DecodeIns.f
 repeat' first
   | (with_reducible exact impl_InsFault.mono _ _ _ _ _ _)
   | (with_reducible exact LeO.refl _)
   | (with_reducible exact LeO.none _)
   | (with_reducible refine LeO.ite ?_ ?_)
   | (with_reducible refine LeO.bind ?_ (fun _ => ?_))
   | exact impl_InsFault.mono _ _ _ _ _ _
   | exact LeO.none _
   | refine LeO.ite ?_ ?_
   | refine LeO.bind ?_ (fun _ => ?_)
def impl_DecodeIns.T3 : Bool × List (List Nat × List Nat) := (true, [([], []), ([0], [0]), ([1], [1]), ([2], [2]), ([], []), ([4], [4]), ([5], [5]), ([6], [6]), ([7], [7]), ([3, 8], [3, 8]), ([], []), ([10], [10]), ([11], [11]), ([12], [12]), ([13], [13]), ([9, 14], [9, 14]), ([], []), ([16], [16]), ([17], [17]), ([18], [18]), ([19], [19]), ([15, 20], [15, 20]), ([21, 0, 1, 2, 3, 4, 5, 6, 7, 8, 9, 10, 11, 12, 13, 14, 15, 16, 17, 18, 19, 20, 21], [21])])
def impl_DecodeIns.B3 : List Nat := [0, 1, 3, 7, 0, 16, 48, 112, 240, 511, 0, 1024, 3072, 7168, 15360, 32767, 0, 65536, 196608, 458752, 983040, 2097151, 4194303]
theorem impl_DecodeIns.tab3 : rtab .any (opsOf Try.f30 3) = impl_DecodeIns.T3 := by kernel_rfl
theorem impl_DecodeIns.bits3 : waitsOk impl_DecodeIns.T3.2 impl_DecodeIns.B3 = true := by kernel_rfl
def impl_DecodeIns.T4 : Bool × List (List Nat × List Nat) := (true, [([], []), ([0], [0]), ([1], [1]), ([2], [2]), ([], []), ([4], [4]), ([5], [5]), ([6], [6]), ([], []), ([8], [8]), ([9], [9]), ([10], [10]), ([], []), ([12], [12]), ([13], [13]), ([14], [14]), ([], []), ([16], [16]), ([17], [17]), ([3, 7, 11, 15, 18], [3, 7, 11, 15, 18]), ([], []), ([20, 19, 0, 1, 2, 3, 4, 5, 6, 7, 8, 9, 10, 11, 12, 13, 14, 15, 16, 17, 18, 19, 20], [19, 20])])
def impl_DecodeIns.B4 : List Nat := [0, 1, 3, 7, 0, 16, 48, 112, 0, 256, 768, 1792, 0, 4096, 12288, 28672, 0, 65536, 196608, 524287, 0, 2097151]
theorem impl_DecodeIns.tab4 : rtab .any (opsOf Try.f30 4) = impl_DecodeIns.T4 := by kernel_rfl
theorem impl_DecodeIns.bits4 : waitsOk impl_DecodeIns.T4.2 impl_DecodeIns.B4 = true := by kernel_rfl
set_option maxHeartbeats 8000000 in
set_option maxRecDepth 100000 in
theorem impl_DecodeIns.calls (k : Nat) (A0 : Option Addr) (c0 : Nat) (l0 : List Int) (r1 : Bool) (r2 : Int) (r3 : Int) (r4 : Int) (r5 : Int) (r6 : Int) (w : World) (hr0 : Kd.C (Kd.int .u8) w A0 l0.length l0) (hc0 : l0.length ≤ c0) (h : impl_DecodeIns.f k l0 = some (r1, r2, r3, r4, r5, r6)) :
    Calls Try.prog 30 #[.slice A0 l0.length c0] w fun e w' => e = .returned (.agg #[.bool r1, .int .i64 r2, .int .i64 r3, .int .i64 r4, .int .i64 r5, .int .i64 r6]) ∧ Below w.heap.size w w' := by
 have hu47 := Try.underlying47
 have hu41 := Try.underlying41
 have HR0 := Aside0.mk hr0
 have HC0 := Aside0.mk hc0
 clear hr0 hc0
 have HB := Aside0.mk (Below.refl w.heap.size w)
 have H : (if (l0.length : Int) = 8 then (if 4 < (l0.length : Int) then (if 5 < (l0.length : Int) then (if 6 < (l0.length : Int) then (if 7 < (l0.length : Int) then (if 0 < (l0.length : Int) then (if 1 < (l0.length : Int) then (if 2 < (l0.length : Int) then (if 3 < (l0.length : Int) then ((impl_InsFault.f k (wrap64 (rd l0 0)) (wrap64 (rd l0 1)) (wrap64 (rd l0 2)) (wrap64 (rd l0 3)) (wrap64 (wrap32 (Go.bits .or .u32 (Go.bits .or .u32 (Go.bits .or .u32 ((rd l0 4) % 4294967296) ((((rd l0 5) % 4294967296) * 256) % 4294967296)) ((((rd l0 6) % 4294967296) * 65536) % 4294967296)) ((((rd l0 7) % 4294967296) * 16777216) % 4294967296))))).bind fun t163 => (if t163 = true then (some (false, 0, 0, 0, 0, 0)) else (some (true, wrap64 (rd l0 0), wrap64 (rd l0 1), wrap64 (rd l0 2), wrap64 (rd l0 3), wrap64 (wrap32 (Go.bits .or .u32 (Go.bits .or .u32 (Go.bits .or .u32 ((rd l0 4) % 4294967296) ((((rd l0 5) % 4294967296) * 256) % 4294967296)) ((((rd l0 6) % 4294967296) * 65536) % 4294967296)) ((((rd l0 7) % 4294967296) * 16777216) % 4294967296))))))) else (none)) else (none)) else (none)) else (none)) else (none)) else (none)) else (none)) else (none)) else (some (false, 0, 0, 0, 0, 0))) = some (r1, r2, r3, r4, r5, r6) := h
 clear h
 by_cases c2 : (l0.length : Int) = 8
 ·rw [if_pos c2] at H
  have c2b0 : ((l0.length : Int) == 8) = true := beq_iff_eq.mpr c2
  have c2b1 : ((l0.length : Int) != 8) = false := bne_eq_false_iff_eq.mpr c2
  clear c2
  by_cases c3 : 4 < (l0.length : Int)
  ·rw [if_pos c3] at H
   have c3b0 : decide (4 < (l0.length : Int)) = true := decide_eq_true c3
   have c3b1 : decide (4 < l0.length) = true := decide_eq_true (by omega)
   clear c3
   by_cases c4 : 5 < (l0.length : Int)
   ·rw [if_pos c4] at H
    have c4b0 : decide (5 < (l0.length : Int)) = true := decide_eq_true c4
    have c4b1 : decide (5 < l0.length) = true := decide_eq_true (by omega)
    clear c4
    by_cases c5 : 6 < (l0.length : Int)
    ·rw [if_pos c5] at H
     have c5b0 : decide (6 < (l0.length : Int)) = true := decide_eq_true c5
     have c5b1 : decide (6 < l0.length) = true := decide_eq_true (by omega)
     clear c5
     by_cases c6 : 7 < (l0.length : Int)
     ·rw [if_pos c6] at H
      have c6b0 : decide (7 < (l0.length : Int)) = true := decide_eq_true c6
      have c6b1 : decide (7 < l0.length) = true := decide_eq_true (by omega)
      clear c6
      by_cases c7 : 0 < (l0.length : Int)
      ·rw [if_pos c7] at H
       have c7b0 : decide (0 < (l0.length : Int)) = true := decide_eq_true c7
       have c7b1 : decide (0 < l0.length) = true := decide_eq_true (by omega)
       clear c7
       by_cases c8 : 1 < (l0.length : Int)
       ·rw [if_pos c8] at H
        have c8b0 : decide (1 < (l0.length : Int)) = true := decide_eq_true c8
        have c8b1 : decide (1 < l0.length) = true := decide_eq_true (by omega)
        clear c8
        by_cases c9 : 2 < (l0.length : Int)
        ·rw [if_pos c9] at H
         have c9b0 : decide (2 < (l0.length : Int)) = true := decide_eq_true c9
         have c9b1 : decide (2 < l0.length) = true := decide_eq_true (by omega)
         clear c9
         by_cases c10 : 3 < (l0.length : Int)
         ·rw [if_pos c10] at H
          have c10b0 : decide (3 < (l0.length : Int)) = true := decide_eq_true c10
          have c10b1 : decide (3 < l0.length) = true := decide_eq_true (by omega)
          clear c10
          replace H := Option.bind_eq_some_iff.mp H
          obtain ⟨t163, A110, H⟩ := H
          replace H : (if t163 = true then (some (false, 0, 0, 0, 0, 0)) else (some (true, wrap64 (rd l0 0), wrap64 (rd l0 1), wrap64 (rd l0 2), wrap64 (rd l0 3), wrap64 (wrap32 (Go.bits .or .u32 (Go.bits .or .u32 (Go.bits .or .u32 ((rd l0 4) % 4294967296) ((((rd l0 5) % 4294967296) * 256) % 4294967296)) ((((rd l0 6) % 4294967296) * 65536) % 4294967296)) ((((rd l0 7) % 4294967296) * 16777216) % 4294967296)))))) = some (r1, r2, r3, r4, r5, r6) := H
          have A11 := Aside0.mk A110
          clear A110
          by_cases c12 : t163 = true
          ·subst c12
           rw [if_pos rfl] at H
           simp only [Option.some.injEq, Prod.mk.injEq] at H
           obtain ⟨rfl, rfl, rfl, rfl, rfl, rfl⟩ := H
           go_enter Try.func30, Try.ntmps30
           try go_wp2_with (first | ((with_reducible refine gate_dst (N := 2) rfl ?_); refine box_event ?hg (N := 2) ?hd (cs := #[.bool false, .int .i64 0, .int .i64 0, .int .i64 0, .int .i64 0, .int .i64 0]) (t := 47) ?hr ?_; (case hd => rfl); (case hg => rfl); (case hr => first | (go_simp; done) | (go_simp; rfl)); intro gb153 hg w13 hbox hb; have n0_ := Aside0.mk (below_step (by repeat (first | (with_reducible first | exact HB.out | apply below_alloc | apply pw_below_drewN | apply below_drew1) | exact HB.out)) hb); have n1_ := Aside0.mk (hbox); have n2_ := Aside0.mk ((by rw [hg]; exact (below_size (by repeat (first | (with_reducible first | exact HB.out | apply below_alloc | apply pw_below_drewN | apply below_drew1) | exact HB.out))) : w.heap.size ≤ gb153)); have n3_ := Aside0.mk ((by rw [hg]; exact (below_size (by repeat (first | (with_reducible first | exact HB.out | apply below_alloc | apply pw_below_drewN | apply below_drew1) | exact HB.out))) : w.heap.size ≤ gb153)); clear HB; have HB := n0_; have BK153 := n1_; have GW153 := n2_; have GE153 := n3_; clear n0_ n1_ n2_ n3_; clear hb hbox hg))
           have n0_ := Aside0.mk (blk_drew BK153.out)
           have n1_ := Aside0.mk (below_drew1 HB.out)
           clear BK153
           clear HB
           have BK153 := n0_
           have HB := n1_
           clear n0_ n1_
           have p154 : 0 ≤ (4 : Int) := (by omega)
           have q154 : 4 < (l0.length : Int) := of_decide_eq_true (by first | (with_reducible assumption) | assumption)
           obtain ⟨ad154, e154, hx154_0⟩ := Kd.at_int HR0.out 4 p154 q154
           have hw154_0 := hx154_0
           (try rw [show ((4 : Int)).toNat = 4 from rfl] at hw154_0)
           (try rw [show 4 * 1 = 4 from rfl] at hw154_0)
           (try simp only [Nat.reduceMul, Nat.reduceEqDiff, Go.Addr.add, ↓reduceIte] at hw154_0)
           cases e154
           (try simp only [show (4 : Int).toNat = 4 from rfl, Nat.reduceMul, Nat.reduceEqDiff, Go.Addr.add, ↓reduceIte] at hx154_0)
           have qi154 : (4 < l0.length) = True := eq_true (by omega)
           (try rw [show ((4 : Int)).toNat = 4 from rfl] at hx154_0)
           replace hx154_0 := (HB.out.cell (World.block_lt_of_cell? w _ hx154_0)).trans hx154_0
           replace p154 := eq_true p154
           replace q154 := eq_true q154
           have p155 : 0 ≤ (5 : Int) := (by omega)
           have q155 : 5 < (l0.length : Int) := of_decide_eq_true (by first | (with_reducible assumption) | assumption)
           obtain ⟨ad155, e155, hx155_0⟩ := Kd.at_int HR0.out 5 p155 q155
           have hw155_0 := hx155_0
           (try rw [show ((5 : Int)).toNat = 5 from rfl] at hw155_0)
           (try rw [show 5 * 1 = 5 from rfl] at hw155_0)
           (try simp only [Nat.reduceMul, Nat.reduceEqDiff, Go.Addr.add, ↓reduceIte] at hw155_0)
           obtain rfl : ad154 = ad155 := (by injection e155)
           (try simp only [show (5 : Int).toNat = 5 from rfl, Nat.reduceMul, Nat.reduceEqDiff, Go.Addr.add, ↓reduceIte] at hx155_0)
           have qi155 : (5 < l0.length) = True := eq_true (by omega)
           (try rw [show ((5 : Int)).toNat = 5 from rfl] at hx155_0)
           replace hx155_0 := (HB.out.cell (World.block_lt_of_cell? w _ hx155_0)).trans hx155_0
           replace p155 := eq_true p155
           replace q155 := eq_true q155
           have p156 : 0 ≤ (6 : Int) := (by omega)
           have q156 : 6 < (l0.length : Int) := of_decide_eq_true (by first | (with_reducible assumption) | assumption)
           obtain ⟨ad156, e156, hx156_0⟩ := Kd.at_int HR0.out 6 p156 q156
           have hw156_0 := hx156_0
           (try rw [show ((6 : Int)).toNat = 6 from rfl] at hw156_0)
           (try rw [show 6 * 1 = 6 from rfl] at hw156_0)
           (try simp only [Nat.reduceMul, Nat.reduceEqDiff, Go.Addr.add, ↓reduceIte] at hw156_0)
           obtain rfl : ad154 = ad156 := (by injection e156)
           (try simp only [show (6 : Int).toNat = 6 from rfl, Nat.reduceMul, Nat.reduceEqDiff, Go.Addr.add, ↓reduceIte] at hx156_0)
           have qi156 : (6 < l0.length) = True := eq_true (by omega)
           (try rw [show ((6 : Int)).toNat = 6 from rfl] at hx156_0)
           replace hx156_0 := (HB.out.cell (World.block_lt_of_cell? w _ hx156_0)).trans hx156_0
           replace p156 := eq_true p156
           replace q156 := eq_true q156
           have p157 : 0 ≤ (7 : Int) := (by omega)
           have q157 : 7 < (l0.length : Int) := of_decide_eq_true (by first | (with_reducible assumption) | assumption)
           obtain ⟨ad157, e157, hx157_0⟩ := Kd.at_int HR0.out 7 p157 q157
           have hw157_0 := hx157_0
           (try rw [show ((7 : Int)).toNat = 7 from rfl] at hw157_0)
           (try rw [show 7 * 1 = 7 from rfl] at hw157_0)
           (try simp only [Nat.reduceMul, Nat.reduceEqDiff, Go.Addr.add, ↓reduceIte] at hw157_0)
           obtain rfl : ad154 = ad157 := (by injection e157)
           (try simp only [show (7 : Int).toNat = 7 from rfl, Nat.reduceMul, Nat.reduceEqDiff, Go.Addr.add, ↓reduceIte] at hx157_0)
           have qi157 : (7 < l0.length) = True := eq_true (by omega)
           (try rw [show ((7 : Int)).toNat = 7 from rfl] at hx157_0)
           replace hx157_0 := (HB.out.cell (World.block_lt_of_cell? w _ hx157_0)).trans hx157_0
           replace p157 := eq_true p157
           replace q157 := eq_true q157
           refine start_ (n := 23) (S := fun w' => w'.cell? ⟨ad154.block, ad154.off + 4, none⟩ = some (.int .u8 (rd l0 4)) ∧ w'.cell? ⟨ad154.block, ad154.off + 5, none⟩ = some (.int .u8 (rd l0 5)) ∧ w'.cell? ⟨ad154.block, ad154.off + 6, none⟩ = some (.int .u8 (rd l0 6)) ∧ w'.cell? ⟨ad154.block, ad154.off + 7, none⟩ = some (.int .u8 (rd l0 7))) (ds := []) #[false, false, false, false, false, false, false, false, false, false, false, false, false, false, false, false, false, false, false, false, false, false, false] (by kernel_rfl) rfl rfl ⟨((HB.out.cell (World.block_lt_of_cell? w _ hw154_0)).trans hw154_0), ((HB.out.cell (World.block_lt_of_cell? w _ hw155_0)).trans hw155_0), ((HB.out.cell (World.block_lt_of_cell? w _ hw156_0)).trans hw156_0), ((HB.out.cell (World.block_lt_of_cell? w _ hw157_0)).trans hw157_0)⟩ (fun hHeld => ?_); refine with_tabW impl_DecodeIns.tab3 impl_DecodeIns.bits3 (fun HT_ HW_ => ?_)
           generalize w13.drew = w14 at BK153 HB hx154_0 hx155_0 hx156_0 hx157_0 hHeld ⊢
           refine pure_ (i := 0) (N := some 9) (v := ?_) (a' := ?_) #[true, false, false, false, false, false, false, false, false, false, false, false, false, false, false, false, false, false, false, false, false, false, false] rfl rfl (any_of HT_.out (by kernel_rfl)) (fun _ _ _ h => h) (Or.inl ⟨by rfl, ?_⟩) ?_ ?_
           rotate_left
           ·intro w'
            go_simp
            with_reducible rfl
           rotate_left
           ·simp only [Act.put, List.setIfInBounds_toArray, List.set_cons_zero, List.set_cons_succ, i64_w, i32_w]
            rfl
           refine pure_ (i := 1) (N := some 10) (v := ?_) (a' := ?_) #[true, true, false, false, false, false, false, false, false, false, false, false, false, false, false, false, false, false, false, false, false, false, false] rfl rfl (any_of HT_.out (by kernel_rfl)) (fun _ _ _ h => h) (Or.inl ⟨by rfl, ?_⟩) ?_ ?_
           rotate_left
           ·intro w'
            go_simp
            with_reducible rfl
           rotate_left
           ·simp only [Act.put, List.setIfInBounds_toArray, List.set_cons_zero, List.set_cons_succ, i64_w, i32_w]
            rfl
           refine pure_ (i := 4) (N := some 13) (v := ?_) (a' := ?_) #[true, true, false, false, true, false, false, false, false, false, false, false, false, false, false, false, false, false, false, false, false, false, false] rfl rfl (any_of HT_.out (by kernel_rfl)) (fun _ _ _ h => h) (Or.inl ⟨by rfl, ?_⟩) ?_ ?_
           rotate_left
           ·intro w'
            go_simp
            with_reducible rfl
           rotate_left
           ·simp only [Act.put, List.setIfInBounds_toArray, List.set_cons_zero, List.set_cons_succ, i64_w, i32_w]
            rfl
           refine pure_ (i := 5) (N := some 14) (v := ?_) (a' := ?_) #[true, true, false, false, true, true, false, false, false, false, false, false, false, false, false, false, false, false, false, false, false, false, false] rfl rfl (any_of HT_.out (by kernel_rfl)) (fun _ _ _ h => h) (Or.inl ⟨by rfl, ?_⟩) ?_ ?_
           rotate_left
           ·intro w'
            go_simp
            with_reducible rfl
           rotate_left
           ·simp only [Act.put, List.setIfInBounds_toArray, List.set_cons_zero, List.set_cons_succ, i64_w, i32_w]
            rfl
           refine pure_ (i := 10) (N := some 19) (v := ?_) (a' := ?_) #[true, true, false, false, true, true, false, false, false, false, true, false, false, false, false, false, false, false, false, false, false, false, false] rfl rfl (any_of HT_.out (by kernel_rfl)) (fun _ _ _ h => h) (Or.inl ⟨by rfl, ?_⟩) ?_ ?_
           rotate_left
           ·intro w'
            go_simp
            with_reducible rfl
           rotate_left
           ·simp only [Act.put, List.setIfInBounds_toArray, List.set_cons_zero, List.set_cons_succ, i64_w, i32_w]
            rfl
           refine pure_ (i := 11) (N := some 20) (v := ?_) (a' := ?_) #[true, true, false, false, true, true, false, false, false, false, true, true, false, false, false, false, false, false, false, false, false, false, false] rfl rfl (any_of HT_.out (by kernel_rfl)) (fun _ _ _ h => h) (Or.inl ⟨by rfl, ?_⟩) ?_ ?_
           rotate_left
           ·intro w'
            go_simp
            with_reducible rfl
           rotate_left
           ·simp only [Act.put, List.setIfInBounds_toArray, List.set_cons_zero, List.set_cons_succ, i64_w, i32_w]
            rfl
           refine pure_ (i := 16) (N := some 25) (v := ?_) (a' := ?_) #[true, true, false, false, true, true, false, false, false, false, true, true, false, false, false, false, true, false, false, false, false, false, false] rfl rfl (any_of HT_.out (by kernel_rfl)) (fun _ _ _ h => h) (Or.inl ⟨by rfl, ?_⟩) ?_ ?_
           rotate_left
           ·intro w'
            go_simp
            with_reducible rfl
           rotate_left
           ·simp only [Act.put, List.setIfInBounds_toArray, List.set_cons_zero, List.set_cons_succ, i64_w, i32_w]
            rfl
           refine pure_ (i := 17) (N := some 26) (v := ?_) (a' := ?_) #[true, true, false, false, true, true, false, false, false, false, true, true, false, false, false, false, true, true, false, false, false, false, false] rfl rfl (any_of HT_.out (by kernel_rfl)) (fun _ _ _ h => h) (Or.inl ⟨by rfl, ?_⟩) ?_ ?_
           rotate_left
           ·intro w'
            go_simp
            with_reducible rfl
           rotate_left
           ·simp only [Act.put, List.setIfInBounds_toArray, List.set_cons_zero, List.set_cons_succ, i64_w, i32_w]
            rfl
           refine take_ (i := 2) (N := some 11) (v := ?_) (a' := ?_) #[true, true, true, false, true, true, false, false, false, false, true, true, false, false, false, false, true, true, false, false, false, false, false] rfl rfl (take_ofW HT_.out HW_.out (by kernel_rfl)) (fun _ _ _ h => h) (Or.inl ⟨by rfl, ?_⟩) hHeld ?_ ?_
           rotate_left
           ·rintro w' ⟨s0, s1, s2, s3⟩
            go_simp
            with_reducible rfl
           rotate_left
           ·simp only [Act.put, List.setIfInBounds_toArray, List.set_cons_zero, List.set_cons_succ, i64_w, i32_w]
            rfl
           refine pure_ (i := 3) (N := some 12) (v := ?_) (a' := ?_) #[true, true, true, true, true, true, false, false, false, false, true, true, false, false, false, false, true, true, false, false, false, false, false] rfl rfl (any_of HT_.out (by kernel_rfl)) (fun _ _ _ h => h) (Or.inl ⟨by rfl, ?_⟩) ?_ ?_
           rotate_left
           ·intro w'
            go_simp
            with_reducible rfl
           rotate_left
           ·simp only [Act.put, List.setIfInBounds_toArray, List.set_cons_zero, List.set_cons_succ, i64_w, i32_w]
            rfl
           refine take_ (i := 6) (N := some 15) (v := ?_) (a' := ?_) #[true, true, true, true, true, true, true, false, false, false, true, true, false, false, false, false, true, true, false, false, false, false, false] rfl rfl (take_ofW HT_.out HW_.out (by kernel_rfl)) (fun _ _ _ h => h) (Or.inl ⟨by rfl, ?_⟩) hHeld ?_ ?_
           rotate_left
           ·rintro w' ⟨s0, s1, s2, s3⟩
            go_simp
            with_reducible rfl
           rotate_left
           ·simp only [Act.put, List.setIfInBounds_toArray, List.set_cons_zero, List.set_cons_succ, i64_w, i32_w]
            rfl
           refine pure_ (i := 7) (N := some 16) (v := ?_) (a' := ?_) #[true, true, true, true, true, true, true, true, false, false, true, true, false, false, false, false, true, true, false, false, false, false, false] rfl rfl (any_of HT_.out (by kernel_rfl)) (fun _ _ _ h => h) (Or.inl ⟨by rfl, ?_⟩) ?_ ?_
           rotate_left
           ·intro w'
            go_simp
            with_reducible rfl
           rotate_left
           ·simp only [Act.put, List.setIfInBounds_toArray, List.set_cons_zero, List.set_cons_succ, i64_w, i32_w]
            rfl
           refine pure_ (i := 8) (N := some 17) (v := ?_) (a' := ?_) #[true, true, true, true, true, true, true, true, true, false, true, true, false, false, false, false, true, true, false, false, false, false, false] rfl rfl (any_of HT_.out (by kernel_rfl)) (fun _ _ _ h => h) (Or.inl ⟨by rfl, ?_⟩) ?_ ?_
           rotate_left
           ·intro w'
            go_simp
            with_reducible rfl
           rotate_left
           ·simp only [Act.put, List.setIfInBounds_toArray, List.set_cons_zero, List.set_cons_succ, i64_w, i32_w]
            rfl
           refine pure_ (i := 9) (N := some 18) (v := ?_) (a' := ?_) #[true, true, true, true, true, true, true, true, true, true, true, true, false, false, false, false, true, true, false, false, false, false, false] rfl rfl (any_of HT_.out (by kernel_rfl)) (fun _ _ _ h => h) (Or.inl ⟨by rfl, ?_⟩) ?_ ?_
           rotate_left
           ·intro w'
            go_simp
            with_reducible rfl
           rotate_left
           ·simp only [Act.put, List.setIfInBounds_toArray, List.set_cons_zero, List.set_cons_succ, i64_w, i32_w]
            rfl
           refine take_ (i := 12) (N := some 21) (v := ?_) (a' := ?_) #[true, true, true, true, true, true, true, true, true, true, true, true, true, false, false, false, true, true, false, false, false, false, false] rfl rfl (take_ofW HT_.out HW_.out (by kernel_rfl)) (fun _ _ _ h => h) (Or.inl ⟨by rfl, ?_⟩) hHeld ?_ ?_
           rotate_left
           ·rintro w' ⟨s0, s1, s2, s3⟩
            go_simp
            with_reducible rfl
           rotate_left
           ·simp only [Act.put, List.setIfInBounds_toArray, List.set_cons_zero, List.set_cons_succ, i64_w, i32_w]
            rfl
           refine pure_ (i := 13) (N := some 22) (v := ?_) (a' := ?_) #[true, true, true, true, true, true, true, true, true, true, true, true, true, true, false, false, true, true, false, false, false, false, false] rfl rfl (any_of HT_.out (by kernel_rfl)) (fun _ _ _ h => h) (Or.inl ⟨by rfl, ?_⟩) ?_ ?_
           rotate_left
           ·intro w'
            go_simp
            with_reducible rfl
           rotate_left
           ·simp only [Act.put, List.setIfInBounds_toArray, List.set_cons_zero, List.set_cons_succ, i64_w, i32_w]
            rfl
           refine pure_ (i := 14) (N := some 23) (v := ?_) (a' := ?_) #[true, true, true, true, true, true, true, true, true, true, true, true, true, true, true, false, true, true, false, false, false, false, false] rfl rfl (any_of HT_.out (by kernel_rfl)) (fun _ _ _ h => h) (Or.inl ⟨by rfl, ?_⟩) ?_ ?_
           rotate_left
           ·intro w'
            go_simp
            with_reducible rfl
           rotate_left
           ·simp only [Act.put, List.setIfInBounds_toArray, List.set_cons_zero, List.set_cons_succ, i64_w, i32_w]
            rfl
           refine pure_ (i := 15) (N := some 24) (v := ?_) (a' := ?_) #[true, true, true, true, true, true, true, true, true, true, true, true, true, true, true, true, true, true, false, false, false, false, false] rfl rfl (any_of HT_.out (by kernel_rfl)) (fun _ _ _ h => h) (Or.inl ⟨by rfl, ?_⟩) ?_ ?_
           rotate_left
           ·intro w'
            go_simp
            with_reducible rfl
           rotate_left
           ·simp only [Act.put, List.setIfInBounds_toArray, List.set_cons_zero, List.set_cons_succ, i64_w, i32_w]
            rfl
           refine take_ (i := 18) (N := some 27) (v := ?_) (a' := ?_) #[true, true, true, true, true, true, true, true, true, true, true, true, true, true, true, true, true, true, true, false, false, false, false] rfl rfl (take_ofW HT_.out HW_.out (by kernel_rfl)) (fun _ _ _ h => h) (Or.inl ⟨by rfl, ?_⟩) hHeld ?_ ?_
           rotate_left
           ·rintro w' ⟨s0, s1, s2, s3⟩
            go_simp
            with_reducible rfl
           rotate_left
           ·simp only [Act.put, List.setIfInBounds_toArray, List.set_cons_zero, List.set_cons_succ, i64_w, i32_w]
            rfl
           refine pure_ (i := 19) (N := some 28) (v := ?_) (a' := ?_) #[true, true, true, true, true, true, true, true, true, true, true, true, true, true, true, true, true, true, true, true, false, false, false] rfl rfl (any_of HT_.out (by kernel_rfl)) (fun _ _ _ h => h) (Or.inl ⟨by rfl, ?_⟩) ?_ ?_
           rotate_left
           ·intro w'
            go_simp
            with_reducible rfl
           rotate_left
           ·simp only [Act.put, List.setIfInBounds_toArray, List.set_cons_zero, List.set_cons_succ, i64_w, i32_w]
            rfl
           refine pure_ (i := 20) (N := some 29) (v := ?_) (a' := ?_) #[true, true, true, true, true, true, true, true, true, true, true, true, true, true, true, true, true, true, true, true, true, false, false] rfl rfl (any_of HT_.out (by kernel_rfl)) (fun _ _ _ h => h) (Or.inl ⟨by rfl, ?_⟩) ?_ ?_
           rotate_left
           ·intro w'
            go_simp
            with_reducible rfl
           rotate_left
           ·simp only [Act.put, List.setIfInBounds_toArray, List.set_cons_zero, List.set_cons_succ, i64_w, i32_w]
            rfl
           refine pure_ (i := 21) (N := some 30) (v := ?_) (a' := ?_) #[true, true, true, true, true, true, true, true, true, true, true, true, true, true, true, true, true, true, true, true, true, true, false] rfl rfl (any_of HT_.out (by kernel_rfl)) (fun _ _ _ h => h) (Or.inl ⟨by rfl, ?_⟩) ?_ ?_
           rotate_left
           ·intro w'
            go_simp
            with_reducible rfl
           rotate_left
           ·simp only [Act.put, List.setIfInBounds_toArray, List.set_cons_zero, List.set_cons_succ, i64_w, i32_w]
            rfl
           refine pure_ (i := 22) (N := some 3) (v := ?_) (a' := ?_) #[true, true, true, true, true, true, true, true, true, true, true, true, true, true, true, true, true, true, true, true, true, true, true] rfl rfl (any_of HT_.out (by kernel_rfl)) (fun _ _ _ h => h) (Or.inl ⟨by rfl, ?_⟩) ?_ ?_
           rotate_left
           ·intro w'
            go_simp
            with_reducible rfl
           rotate_left
           ·simp only [Act.put, List.setIfInBounds_toArray, List.set_cons_zero, List.set_cons_succ, i64_w, i32_w]
            rfl
           refine done_ (done_of HT_.out (by kernel_rfl)) ?_
           try go_wp2
           have n0_ := Aside0.mk (blk_drew BK153.out)
           have n1_ := Aside0.mk (below_drew1 HB.out)
           clear BK153
           clear HB
           have BK153 := n0_
           have HB := n1_
           clear n0_ n1_
           have p158 : 0 ≤ (0 : Int) := (by omega)
           have q158 : 0 < (l0.length : Int) := of_decide_eq_true (by first | (with_reducible assumption) | assumption)
           obtain ⟨ad158, e158, hx158_0⟩ := Kd.at_int HR0.out 0 p158 q158
           have hw158_0 := hx158_0
           (try rw [show ((0 : Int)).toNat = 0 from rfl] at hw158_0)
           (try rw [show 0 * 1 = 0 from rfl] at hw158_0)
           (try rw [Addr.add_zero'] at hw158_0)
           obtain rfl : ad154 = ad158 := (by injection e158)
           have qi158 : (0 < l0.length) = True := eq_true (by omega)
           (try rw [show ((0 : Int)).toNat = 0 from rfl] at hx158_0)
           (try rw [Addr.add_zero'] at hx158_0)
           replace hx158_0 := (HB.out.cell (World.block_lt_of_cell? w _ hx158_0)).trans hx158_0
           replace p158 := eq_true p158
           replace q158 := eq_true q158
           have p159 : 0 ≤ (1 : Int) := (by omega)
           have q159 : 1 < (l0.length : Int) := of_decide_eq_true (by first | (with_reducible assumption) | assumption)
           obtain ⟨ad159, e159, hx159_0⟩ := Kd.at_int HR0.out 1 p159 q159
           have hw159_0 := hx159_0
           (try rw [show ((1 : Int)).toNat = 1 from rfl] at hw159_0)
           (try rw [show 1 * 1 = 1 from rfl] at hw159_0)
           (try simp only [Nat.reduceMul, Nat.reduceEqDiff, Go.Addr.add, ↓reduceIte] at hw159_0)
           obtain rfl : ad154 = ad159 := (by injection e159)
           (try simp only [show (1 : Int).toNat = 1 from rfl, Nat.reduceMul, Nat.reduceEqDiff, Go.Addr.add, ↓reduceIte] at hx159_0)
           have qi159 : (1 < l0.length) = True := eq_true (by omega)
           (try rw [show ((1 : Int)).toNat = 1 from rfl] at hx159_0)
           replace hx159_0 := (HB.out.cell (World.block_lt_of_cell? w _ hx159_0)).trans hx159_0
           replace p159 := eq_true p159
           replace q159 := eq_true q159
           have p160 : 0 ≤ (2 : Int) := (by omega)
           have q160 : 2 < (l0.length : Int) := of_decide_eq_true (by first | (with_reducible assumption) | assumption)
           obtain ⟨ad160, e160, hx160_0⟩ := Kd.at_int HR0.out 2 p160 q160
           have hw160_0 := hx160_0
           (try rw [show ((2 : Int)).toNat = 2 from rfl] at hw160_0)
           (try rw [show 2 * 1 = 2 from rfl] at hw160_0)
           (try simp only [Nat.reduceMul, Nat.reduceEqDiff, Go.Addr.add, ↓reduceIte] at hw160_0)
           obtain rfl : ad154 = ad160 := (by injection e160)
           (try simp only [show (2 : Int).toNat = 2 from rfl, Nat.reduceMul, Nat.reduceEqDiff, Go.Addr.add, ↓reduceIte] at hx160_0)
           have qi160 : (2 < l0.length) = True := eq_true (by omega)
           (try rw [show ((2 : Int)).toNat = 2 from rfl] at hx160_0)
           replace hx160_0 := (HB.out.cell (World.block_lt_of_cell? w _ hx160_0)).trans hx160_0
           replace p160 := eq_true p160
           replace q160 := eq_true q160
           have p161 : 0 ≤ (3 : Int) := (by omega)
           have q161 : 3 < (l0.length : Int) := of_decide_eq_true (by first | (with_reducible assumption) | assumption)
           obtain ⟨ad161, e161, hx161_0⟩ := Kd.at_int HR0.out 3 p161 q161
           have hw161_0 := hx161_0
           (try rw [show ((3 : Int)).toNat = 3 from rfl] at hw161_0)
           (try rw [show 3 * 1 = 3 from rfl] at hw161_0)
           (try simp only [Nat.reduceMul, Nat.reduceEqDiff, Go.Addr.add, ↓reduceIte] at hw161_0)
           obtain rfl : ad154 = ad161 := (by injection e161)
           (try simp only [show (3 : Int).toNat = 3 from rfl, Nat.reduceMul, Nat.reduceEqDiff, Go.Addr.add, ↓reduceIte] at hx161_0)
           have qi161 : (3 < l0.length) = True := eq_true (by omega)
           (try rw [show ((3 : Int)).toNat = 3 from rfl] at hx161_0)
           replace hx161_0 := (HB.out.cell (World.block_lt_of_cell? w _ hx161_0)).trans hx161_0
           replace p161 := eq_true p161
           replace q161 := eq_true q161
           refine start_ (n := 22) (S := fun w' => w'.cell? ad154 = some (.int .u8 (rd l0 0)) ∧ w'.cell? ⟨ad154.block, ad154.off + 1, none⟩ = some (.int .u8 (rd l0 1)) ∧ w'.cell? ⟨ad154.block, ad154.off + 2, none⟩ = some (.int .u8 (rd l0 2)) ∧ w'.cell? ⟨ad154.block, ad154.off + 3, none⟩ = some (.int .u8 (rd l0 3))) (ds := []) #[false, false, false, false, false, false, false, false, false, false, false, false, false, false, false, false, false, false, false, false, false, false] (by kernel_rfl) rfl rfl ⟨((HB.out.cell (World.block_lt_of_cell? w _ hw158_0)).trans hw158_0), ((HB.out.cell (World.block_lt_of_cell? w _ hw159_0)).trans hw159_0), ((HB.out.cell (World.block_lt_of_cell? w _ hw160_0)).trans hw160_0), ((HB.out.cell (World.block_lt_of_cell? w _ hw161_0)).trans hw161_0)⟩ (fun hHeld => ?_); refine with_tabW impl_DecodeIns.tab4 impl_DecodeIns.bits4 (fun HT_ HW_ => ?_)
           generalize w14.drew = w15 at BK153 HB hx158_0 hx159_0 hx160_0 hx161_0 hHeld ⊢
           refine pure_ (i := 0) (N := some 31) (v := ?_) (a' := ?_) #[true, false, false, false, false, false, false, false, false, false, false, false, false, false, false, false, false, false, false, false, false, false] rfl rfl (any_of HT_.out (by kernel_rfl)) (fun _ _ _ h => h) (Or.inl ⟨by rfl, ?_⟩) ?_ ?_
           rotate_left
           ·intro w'
            go_simp
            with_reducible rfl
           rotate_left
           ·simp only [Act.put, List.setIfInBounds_toArray, List.set_cons_zero, List.set_cons_succ, i64_w, i32_w]
            rfl
           refine pure_ (i := 1) (N := some 32) (v := ?_) (a' := ?_) #[true, true, false, false, false, false, false, false, false, false, false, false, false, false, false, false, false, false, false, false, false, false] rfl rfl (any_of HT_.out (by kernel_rfl)) (fun _ _ _ h => h) (Or.inl ⟨by rfl, ?_⟩) ?_ ?_
           rotate_left
           ·intro w'
            go_simp
            with_reducible rfl
           rotate_left
           ·simp only [Act.put, List.setIfInBounds_toArray, List.set_cons_zero, List.set_cons_succ, i64_w, i32_w]
            rfl
           refine pure_ (i := 4) (N := some 35) (v := ?_) (a' := ?_) #[true, true, false, false, true, false, false, false, false, false, false, false, false, false, false, false, false, false, false, false, false, false] rfl rfl (any_of HT_.out (by kernel_rfl)) (fun _ _ _ h => h) (Or.inl ⟨by rfl, ?_⟩) ?_ ?_
           rotate_left
           ·intro w'
            go_simp
            with_reducible rfl
           rotate_left
           ·simp only [Act.put, List.setIfInBounds_toArray, List.set_cons_zero, List.set_cons_succ, i64_w, i32_w]
            rfl
           refine pure_ (i := 5) (N := some 36) (v := ?_) (a' := ?_) #[true, true, false, false, true, true, false, false, false, false, false, false, false, false, false, false, false, false, false, false, false, false] rfl rfl (any_of HT_.out (by kernel_rfl)) (fun _ _ _ h => h) (Or.inl ⟨by rfl, ?_⟩) ?_ ?_
           rotate_left
           ·intro w'
            go_simp
            with_reducible rfl
           rotate_left
           ·simp only [Act.put, List.setIfInBounds_toArray, List.set_cons_zero, List.set_cons_succ, i64_w, i32_w]
            rfl
           refine pure_ (i := 8) (N := some 39) (v := ?_) (a' := ?_) #[true, true, false, false, true, true, false, false, true, false, false, false, false, false, false, false, false, false, false, false, false, false] rfl rfl (any_of HT_.out (by kernel_rfl)) (fun _ _ _ h => h) (Or.inl ⟨by rfl, ?_⟩) ?_ ?_
           rotate_left
           ·intro w'
            go_simp
            with_reducible rfl
           rotate_left
           ·simp only [Act.put, List.setIfInBounds_toArray, List.set_cons_zero, List.set_cons_succ, i64_w, i32_w]
            rfl
           refine pure_ (i := 9) (N := some 40) (v := ?_) (a' := ?_) #[true, true, false, false, true, true, false, false, true, true, false, false, false, false, false, false, false, false, false, false, false, false] rfl rfl (any_of HT_.out (by kernel_rfl)) (fun _ _ _ h => h) (Or.inl ⟨by rfl, ?_⟩) ?_ ?_
           rotate_left
           ·intro w'
            go_simp
            with_reducible rfl
           rotate_left
           ·simp only [Act.put, List.setIfInBounds_toArray, List.set_cons_zero, List.set_cons_succ, i64_w, i32_w]
            rfl
           refine pure_ (i := 12) (N := some 43) (v := ?_) (a' := ?_) #[true, true, false, false, true, true, false, false, true, true, false, false, true, false, false, false, false, false, false, false, false, false] rfl rfl (any_of HT_.out (by kernel_rfl)) (fun _ _ _ h => h) (Or.inl ⟨by rfl, ?_⟩) ?_ ?_
           rotate_left
           ·intro w'
            go_simp
            with_reducible rfl
           rotate_left
           ·simp only [Act.put, List.setIfInBounds_toArray, List.set_cons_zero, List.set_cons_succ, i64_w, i32_w]
            rfl
           refine pure_ (i := 13) (N := some 44) (v := ?_) (a' := ?_) #[true, true, false, false, true, true, false, false, true, true, false, false, true, true, false, false, false, false, false, false, false, false] rfl rfl (any_of HT_.out (by kernel_rfl)) (fun _ _ _ h => h) (Or.inl ⟨by rfl, ?_⟩) ?_ ?_
           rotate_left
           ·intro w'
            go_simp
            with_reducible rfl
           rotate_left
           ·simp only [Act.put, List.setIfInBounds_toArray, List.set_cons_zero, List.set_cons_succ, i64_w, i32_w]
            rfl
           refine pure_ (i := 16) (N := some 47) (v := ?_) (a' := ?_) #[true, true, false, false, true, true, false, false, true, true, false, false, true, true, false, false, true, false, false, false, false, false] rfl rfl (any_of HT_.out (by kernel_rfl)) (fun _ _ _ h => h) (Or.inl ⟨by rfl, ?_⟩) ?_ ?_
           rotate_left
           ·intro w'
            go_simp
            with_reducible rfl
           rotate_left
           ·simp only [Act.put, List.setIfInBounds_toArray, List.set_cons_zero, List.set_cons_succ, i64_w, i32_w]
            rfl
           refine pure_ (i := 17) (N := some 48) (v := ?_) (a' := ?_) #[true, true, false, false, true, true, false, false, true, true, false, false, true, true, false, false, true, true, false, false, false, false] rfl rfl (any_of HT_.out (by kernel_rfl)) (fun _ _ _ h => h) (Or.inl ⟨by rfl, ?_⟩) ?_ ?_
           rotate_left
           ·intro w'
            go_simp
            with_reducible rfl
           rotate_left
           ·simp only [Act.put, List.setIfInBounds_toArray, List.set_cons_zero, List.set_cons_succ, i64_w, i32_w]
            rfl
           refine pure_ (i := 18) (N := some 49) (v := ?_) (a' := ?_) #[true, true, false, false, true, true, false, false, true, true, false, false, true, true, false, false, true, true, true, false, false, false] rfl rfl (any_of HT_.out (by kernel_rfl)) (fun _ _ _ h => h) (Or.inl ⟨by rfl, ?_⟩) ?_ ?_
           rotate_left
           ·intro w'
            go_simp
            with_reducible rfl
           rotate_left
           ·simp only [Act.put, List.setIfInBounds_toArray, List.set_cons_zero, List.set_cons_succ, i64_w, i32_w]
            rfl
           refine take_ (i := 2) (N := some 33) (v := ?_) (a' := ?_) #[true, true, true, false, true, true, false, false, true, true, false, false, true, true, false, false, true, true, true, false, false, false] rfl rfl (take_ofW HT_.out HW_.out (by kernel_rfl)) (fun _ _ _ h => h) (Or.inl ⟨by rfl, ?_⟩) hHeld ?_ ?_
           rotate_left
           ·rintro w' ⟨s0, s1, s2, s3⟩
            go_simp
            with_reducible rfl
           rotate_left
           ·simp only [Act.put, List.setIfInBounds_toArray, List.set_cons_zero, List.set_cons_succ, i64_w, i32_w]
            rfl
           refine pure_ (i := 3) (N := some 34) (v := ?_) (a' := ?_) #[true, true, true, true, true, true, false, false, true, true, false, false, true, true, false, false, true, true, true, false, false, false] rfl rfl (any_of HT_.out (by kernel_rfl)) (fun _ _ _ h => h) (Or.inl ⟨by rfl, ?_⟩) ?_ ?_
           rotate_left
           ·intro w'
            go_simp
            with_reducible rfl
           rotate_left
           ·simp only [Act.put, List.setIfInBounds_toArray, List.set_cons_zero, List.set_cons_succ, i64_w, i32_w]
            rfl
           refine take_ (i := 6) (N := some 37) (v := ?_) (a' := ?_) #[true, true, true, true, true, true, true, false, true, true, false, false, true, true, false, false, true, true, true, false, false, false] rfl rfl (take_ofW HT_.out HW_.out (by kernel_rfl)) (fun _ _ _ h => h) (Or.inl ⟨by rfl, ?_⟩) hHeld ?_ ?_
           rotate_left
           ·rintro w' ⟨s0, s1, s2, s3⟩
            go_simp
            with_reducible rfl
           rotate_left
           ·simp only [Act.put, List.setIfInBounds_toArray, List.set_cons_zero, List.set_cons_succ, i64_w, i32_w]
            rfl
           refine pure_ (i := 7) (N := some 38) (v := ?_) (a' := ?_) #[true, true, true, true, true, true, true, true, true, true, false, false, true, true, false, false, true, true, true, false, false, false] rfl rfl (any_of HT_.out (by kernel_rfl)) (fun _ _ _ h => h) (Or.inl ⟨by rfl, ?_⟩) ?_ ?_
           rotate_left
           ·intro w'
            go_simp
            with_reducible rfl
           rotate_left
           ·simp only [Act.put, List.setIfInBounds_toArray, List.set_cons_zero, List.set_cons_succ, i64_w, i32_w]
            rfl
           refine take_ (i := 10) (N := some 41) (v := ?_) (a' := ?_) #[true, true, true, true, true, true, true, true, true, true, true, false, true, true, false, false, true, true, true, false, false, false] rfl rfl (take_ofW HT_.out HW_.out (by kernel_rfl)) (fun _ _ _ h => h) (Or.inl ⟨by rfl, ?_⟩) hHeld ?_ ?_
           rotate_left
           ·rintro w' ⟨s0, s1, s2, s3⟩
            go_simp
            with_reducible rfl
           rotate_left
           ·simp only [Act.put, List.setIfInBounds_toArray, List.set_cons_zero, List.set_cons_succ, i64_w, i32_w]
            rfl
           refine pure_ (i := 11) (N := some 42) (v := ?_) (a' := ?_) #[true, true, true, true, true, true, true, true, true, true, true, true, true, true, false, false, true, true, true, false, false, false] rfl rfl (any_of HT_.out (by kernel_rfl)) (fun _ _ _ h => h) (Or.inl ⟨by rfl, ?_⟩) ?_ ?_
           rotate_left
           ·intro w'
            go_simp
            with_reducible rfl
           rotate_left
           ·simp only [Act.put, List.setIfInBounds_toArray, List.set_cons_zero, List.set_cons_succ, i64_w, i32_w]
            rfl
           refine take_ (i := 14) (N := some 45) (v := ?_) (a' := ?_) #[true, true, true, true, true, true, true, true, true, true, true, true, true, true, true, false, true, true, true, false, false, false] rfl rfl (take_ofW HT_.out HW_.out (by kernel_rfl)) (fun _ _ _ h => h) (Or.inl ⟨by rfl, ?_⟩) hHeld ?_ ?_
           rotate_left
           ·rintro w' ⟨s0, s1, s2, s3⟩
            go_simp
            with_reducible rfl
           rotate_left
           ·simp only [Act.put, List.setIfInBounds_toArray, List.set_cons_zero, List.set_cons_succ, i64_w, i32_w]
            rfl
           refine pure_ (i := 15) (N := some 46) (v := ?_) (a' := ?_) #[true, true, true, true, true, true, true, true, true, true, true, true, true, true, true, true, true, true, true, false, false, false] rfl rfl (any_of HT_.out (by kernel_rfl)) (fun _ _ _ h => h) (Or.inl ⟨by rfl, ?_⟩) ?_ ?_
           rotate_left
           ·intro w'
            go_simp
            with_reducible rfl
           rotate_left
           ·simp only [Act.put, List.setIfInBounds_toArray, List.set_cons_zero, List.set_cons_succ, i64_w, i32_w]
            rfl
           refine pure_ (i := 19) (N := some 50) (v := ?_) (a' := ?_) #[true, true, true, true, true, true, true, true, true, true, true, true, true, true, true, true, true, true, true, true, false, false] rfl rfl (any_of HT_.out (by kernel_rfl)) (fun _ _ _ h => h) (Or.inl ⟨by rfl, ?_⟩) ?_ ?_
           rotate_left
           ·intro w'
            go_simp
            with_reducible rfl
           rotate_left
           ·simp only [Act.put, List.setIfInBounds_toArray, List.set_cons_zero, List.set_cons_succ, i64_w, i32_w]
            rfl
           refine one_ (i := 20) (N := some 4) #[true, true, true, true, true, true, true, true, true, true, true, true, true, true, true, true, true, true, true, true, true, false] rfl rfl (one_of HT_.out (by kernel_rfl)) (by decide) (fun K hK => ?_)
           refine box_step ?hg (N := 4) ?hd (cs := #[.int .i64 0, .int .i64 0, .int .i64 0, .int .i64 0, .int .i64 0]) (t := 41) ?hr ?_; (case hd => rfl); (case hg => rfl); (case hr => first | (go_simp; done) | (go_simp; rfl))
           intro gb162 hg w16 hbox hb
           have n0_ := Aside0.mk (blk_below (g := gb153) (o := .cells #[.bool false, .int .i64 0, .int .i64 0, .int .i64 0, .int .i64 0, .int .i64 0] 47 (0, 0)) (by exact BK153.out) hb)
           have n1_ := Aside0.mk (below_step (by repeat (first | (with_reducible first | exact HB.out | apply below_alloc | apply pw_below_drewN | apply below_drew1 | refine below_set ?_ GE153.out) | exact HB.out)) hb)
           have n2_ := Aside0.mk (hbox)
           have n3_ := Aside0.mk ((by rw [hg]; exact (below_size (by repeat (first | (with_reducible first | exact HB.out | apply below_alloc | apply pw_below_drewN | apply below_drew1 | refine below_set ?_ GE153.out) | exact HB.out))) : w.heap.size ≤ gb162))
           have n4_ := Aside0.mk ((by rw [hg]; exact (below_size (by repeat (first | (with_reducible first | exact HB.out | apply below_alloc | apply pw_below_drewN | apply below_drew1 | refine below_set ?_ GE153.out) | exact HB.out))) : w.heap.size ≤ gb162))
           have n5_ := Aside0.mk ((by rw [hg]; exact Nat.ne_of_lt (blk_lt (g := gb153) (o := .cells #[.bool false, .int .i64 0, .int .i64 0, .int .i64 0, .int .i64 0, .int .i64 0] 47 (0, 0)) (by exact BK153.out)) : gb153 ≠ gb162))
           have n6_ := Aside0.mk ((by rw [hg]; exact Nat.ne_of_gt (blk_lt (g := gb153) (o := .cells #[.bool false, .int .i64 0, .int .i64 0, .int .i64 0, .int .i64 0, .int .i64 0] 47 (0, 0)) (by exact BK153.out)) : gb162 ≠ gb153))
           clear BK153
           clear HB
           have BK153 := n0_
           have HB := n1_
           have BK162 := n2_
           have GW162 := n3_
           have GE162 := n4_
           have NB153_162 := n5_
           have NB162_153 := n6_
           clear n0_ n1_ n2_ n3_ n4_ n5_ n6_
           clear hb hbox hg
           refine hK.out _ _ ⟨((HB.out.cell (World.block_lt_of_cell? w _ hw158_0)).trans hw158_0), ((HB.out.cell (World.block_lt_of_cell? w _ hw159_0)).trans hw159_0), ((HB.out.cell (World.block_lt_of_cell? w _ hw160_0)).trans hw160_0), ((HB.out.cell (World.block_lt_of_cell? w _ hw161_0)).trans hw161_0)⟩ (fun hHeld => ?_)
           clear hK K
           refine norm_ (a' := ?_) ?_ ?_
           rotate_left
           ·show Act.put _ (some 4) _ = _
            simp only [Act.put, List.setIfInBounds_toArray, List.set_cons_zero, List.set_cons_succ, i64_w, i32_w]
            rfl
           refine one_ (i := 21) (N := none) #[true, true, true, true, true, true, true, true, true, true, true, true, true, true, true, true, true, true, true, true, true, true] rfl rfl (one_of HT_.out (by kernel_rfl)) (by decide) (fun K hK => ?_)
           have hs17 : w16.cell? ⟨gb162, 0, none⟩ = some (.int .i64 0) := (blk_cell BK162.out 0).trans rfl
           have hfs17 := blk_frozen BK162.out 0
           have hns17_0 := NB153_162.out
           have hms17_0 := NB162_153.out
           have hs18 : w16.cell? ⟨gb162, 1, none⟩ = some (.int .i64 0) := (blk_cell BK162.out 1).trans rfl
           have hfs18 := blk_frozen BK162.out 1
           have hns18_0 := NB153_162.out
           have hms18_0 := NB162_153.out
           have hs19 : w16.cell? ⟨gb162, 2, none⟩ = some (.int .i64 0) := (blk_cell BK162.out 2).trans rfl
           have hfs19 := blk_frozen BK162.out 2
           have hns19_0 := NB153_162.out
           have hms19_0 := NB162_153.out
           have hs20 : w16.cell? ⟨gb162, 3, none⟩ = some (.int .i64 0) := (blk_cell BK162.out 3).trans rfl
           have hfs20 := blk_frozen BK162.out 3
           have hns20_0 := NB153_162.out
           have hms20_0 := NB162_153.out
           have hs21 : w16.cell? ⟨gb162, 4, none⟩ = some (.int .i64 0) := (blk_cell BK162.out 4).trans rfl
           have hfs21 := blk_frozen BK162.out 4
           have hns21_0 := NB153_162.out
           have hms21_0 := NB162_153.out
           refine skip_ (w1 := ?_) (by rfl) rfl ?_ ?_
           rotate_left
           ·go_simp
            rfl
           refine hK.out _ _ ⟨((cell_far (p := ⟨gb162, _, none⟩) (by first | exact Nat.ne_of_lt (Nat.lt_of_lt_of_le (by have := World.block_lt_of_cell? _ _ hw158_0; first | rwa [add_block] at this | exact this) GW162.out) | (rw [add_block]; exact Nat.ne_of_lt (Nat.lt_of_lt_of_le (by have := World.block_lt_of_cell? _ _ hw158_0; first | rwa [add_block] at this | exact this) GW162.out)) | (show (Addr.add _ _).block ≠ _; rw [add_block]; exact Nat.ne_of_lt (Nat.lt_of_lt_of_le (by have := World.block_lt_of_cell? _ _ hw158_0; first | rwa [add_block] at this | exact this) GW162.out)) | (dsimp only; exact Nat.ne_of_lt (Nat.lt_of_lt_of_le (by have := World.block_lt_of_cell? _ _ hw158_0; first | rwa [add_block] at this | exact this) GW162.out))) _).trans (((cell_far (p := ⟨gb162, _, none⟩) (by first | exact Nat.ne_of_lt (Nat.lt_of_lt_of_le (by have := World.block_lt_of_cell? _ _ hw158_0; first | rwa [add_block] at this | exact this) GW162.out) | (rw [add_block]; exact Nat.ne_of_lt (Nat.lt_of_lt_of_le (by have := World.block_lt_of_cell? _ _ hw158_0; first | rwa [add_block] at this | exact this) GW162.out)) | (show (Addr.add _ _).block ≠ _; rw [add_block]; exact Nat.ne_of_lt (Nat.lt_of_lt_of_le (by have := World.block_lt_of_cell? _ _ hw158_0; first | rwa [add_block] at this | exact this) GW162.out)) | (dsimp only; exact Nat.ne_of_lt (Nat.lt_of_lt_of_le (by have := World.block_lt_of_cell? _ _ hw158_0; first | rwa [add_block] at this | exact this) GW162.out))) _).trans (((cell_far (p := ⟨gb162, _, none⟩) (by first | exact Nat.ne_of_lt (Nat.lt_of_lt_of_le (by have := World.block_lt_of_cell? _ _ hw158_0; first | rwa [add_block] at this | exact this) GW162.out) | (rw [add_block]; exact Nat.ne_of_lt (Nat.lt_of_lt_of_le (by have := World.block_lt_of_cell? _ _ hw158_0; first | rwa [add_block] at this | exact this) GW162.out)) | (show (Addr.add _ _).block ≠ _; rw [add_block]; exact Nat.ne_of_lt (Nat.lt_of_lt_of_le (by have := World.block_lt_of_cell? _ _ hw158_0; first | rwa [add_block] at this | exact this) GW162.out)) | (dsimp only; exact Nat.ne_of_lt (Nat.lt_of_lt_of_le (by have := World.block_lt_of_cell? _ _ hw158_0; first | rwa [add_block] at this | exact this) GW162.out))) _).trans (((cell_far (p := ⟨gb162, _, none⟩) (by first | exact Nat.ne_of_lt (Nat.lt_of_lt_of_le (by have := World.block_lt_of_cell? _ _ hw158_0; first | rwa [add_block] at this | exact this) GW162.out) | (rw [add_block]; exact Nat.ne_of_lt (Nat.lt_of_lt_of_le (by have := World.block_lt_of_cell? _ _ hw158_0; first | rwa [add_block] at this | exact this) GW162.out)) | (show (Addr.add _ _).block ≠ _; rw [add_block]; exact Nat.ne_of_lt (Nat.lt_of_lt_of_le (by have := World.block_lt_of_cell? _ _ hw158_0; first | rwa [add_block] at this | exact this) GW162.out)) | (dsimp only; exact Nat.ne_of_lt (Nat.lt_of_lt_of_le (by have := World.block_lt_of_cell? _ _ hw158_0; first | rwa [add_block] at this | exact this) GW162.out))) _).trans (((cell_far (p := ⟨gb162, _, none⟩) (by first | exact Nat.ne_of_lt (Nat.lt_of_lt_of_le (by have := World.block_lt_of_cell? _ _ hw158_0; first | rwa [add_block] at this | exact this) GW162.out) | (rw [add_block]; exact Nat.ne_of_lt (Nat.lt_of_lt_of_le (by have := World.block_lt_of_cell? _ _ hw158_0; first | rwa [add_block] at this | exact this) GW162.out)) | (show (Addr.add _ _).block ≠ _; rw [add_block]; exact Nat.ne_of_lt (Nat.lt_of_lt_of_le (by have := World.block_lt_of_cell? _ _ hw158_0; first | rwa [add_block] at this | exact this) GW162.out)) | (dsimp only; exact Nat.ne_of_lt (Nat.lt_of_lt_of_le (by have := World.block_lt_of_cell? _ _ hw158_0; first | rwa [add_block] at this | exact this) GW162.out))) _).trans (hHeld.1)))))))))), ((cell_far (p := ⟨gb162, _, none⟩) (by first | exact Nat.ne_of_lt (Nat.lt_of_lt_of_le (by have := World.block_lt_of_cell? _ _ hw159_0; first | rwa [add_block] at this | exact this) GW162.out) | (rw [add_block]; exact Nat.ne_of_lt (Nat.lt_of_lt_of_le (by have := World.block_lt_of_cell? _ _ hw159_0; first | rwa [add_block] at this | exact this) GW162.out)) | (show (Addr.add _ _).block ≠ _; rw [add_block]; exact Nat.ne_of_lt (Nat.lt_of_lt_of_le (by have := World.block_lt_of_cell? _ _ hw159_0; first | rwa [add_block] at this | exact this) GW162.out)) | (dsimp only; exact Nat.ne_of_lt (Nat.lt_of_lt_of_le (by have := World.block_lt_of_cell? _ _ hw159_0; first | rwa [add_block] at this | exact this) GW162.out))) _).trans (((cell_far (p := ⟨gb162, _, none⟩) (by first | exact Nat.ne_of_lt (Nat.lt_of_lt_of_le (by have := World.block_lt_of_cell? _ _ hw159_0; first | rwa [add_block] at this | exact this) GW162.out) | (rw [add_block]; exact Nat.ne_of_lt (Nat.lt_of_lt_of_le (by have := World.block_lt_of_cell? _ _ hw159_0; first | rwa [add_block] at this | exact this) GW162.out)) | (show (Addr.add _ _).block ≠ _; rw [add_block]; exact Nat.ne_of_lt (Nat.lt_of_lt_of_le (by have := World.block_lt_of_cell? _ _ hw159_0; first | rwa [add_block] at this | exact this) GW162.out)) | (dsimp only; exact Nat.ne_of_lt (Nat.lt_of_lt_of_le (by have := World.block_lt_of_cell? _ _ hw159_0; first | rwa [add_block] at this | exact this) GW162.out))) _).trans (((cell_far (p := ⟨gb162, _, none⟩) (by first | exact Nat.ne_of_lt (Nat.lt_of_lt_of_le (by have := World.block_lt_of_cell? _ _ hw159_0; first | rwa [add_block] at this | exact this) GW162.out) | (rw [add_block]; exact Nat.ne_of_lt (Nat.lt_of_lt_of_le (by have := World.block_lt_of_cell? _ _ hw159_0; first | rwa [add_block] at this | exact this) GW162.out)) | (show (Addr.add _ _).block ≠ _; rw [add_block]; exact Nat.ne_of_lt (Nat.lt_of_lt_of_le (by have := World.block_lt_of_cell? _ _ hw159_0; first | rwa [add_block] at this | exact this) GW162.out)) | (dsimp only; exact Nat.ne_of_lt (Nat.lt_of_lt_of_le (by have := World.block_lt_of_cell? _ _ hw159_0; first | rwa [add_block] at this | exact this) GW162.out))) _).trans (((cell_far (p := ⟨gb162, _, none⟩) (by first | exact Nat.ne_of_lt (Nat.lt_of_lt_of_le (by have := World.block_lt_of_cell? _ _ hw159_0; first | rwa [add_block] at this | exact this) GW162.out) | (rw [add_block]; exact Nat.ne_of_lt (Nat.lt_of_lt_of_le (by have := World.block_lt_of_cell? _ _ hw159_0; first | rwa [add_block] at this | exact this) GW162.out)) | (show (Addr.add _ _).block ≠ _; rw [add_block]; exact Nat.ne_of_lt (Nat.lt_of_lt_of_le (by have := World.block_lt_of_cell? _ _ hw159_0; first | rwa [add_block] at this | exact this) GW162.out)) | (dsimp only; exact Nat.ne_of_lt (Nat.lt_of_lt_of_le (by have := World.block_lt_of_cell? _ _ hw159_0; first | rwa [add_block] at this | exact this) GW162.out))) _).trans (((cell_far (p := ⟨gb162, _, none⟩) (by first | exact Nat.ne_of_lt (Nat.lt_of_lt_of_le (by have := World.block_lt_of_cell? _ _ hw159_0; first | rwa [add_block] at this | exact this) GW162.out) | (rw [add_block]; exact Nat.ne_of_lt (Nat.lt_of_lt_of_le (by have := World.block_lt_of_cell? _ _ hw159_0; first | rwa [add_block] at this | exact this) GW162.out)) | (show (Addr.add _ _).block ≠ _; rw [add_block]; exact Nat.ne_of_lt (Nat.lt_of_lt_of_le (by have := World.block_lt_of_cell? _ _ hw159_0; first | rwa [add_block] at this | exact this) GW162.out)) | (dsimp only; exact Nat.ne_of_lt (Nat.lt_of_lt_of_le (by have := World.block_lt_of_cell? _ _ hw159_0; first | rwa [add_block] at this | exact this) GW162.out))) _).trans (hHeld.2.1)))))))))), ((cell_far (p := ⟨gb162, _, none⟩) (by first | exact Nat.ne_of_lt (Nat.lt_of_lt_of_le (by have := World.block_lt_of_cell? _ _ hw160_0; first | rwa [add_block] at this | exact this) GW162.out) | (rw [add_block]; exact Nat.ne_of_lt (Nat.lt_of_lt_of_le (by have := World.block_lt_of_cell? _ _ hw160_0; first | rwa [add_block] at this | exact this) GW162.out)) | (show (Addr.add _ _).block ≠ _; rw [add_block]; exact Nat.ne_of_lt (Nat.lt_of_lt_of_le (by have := World.block_lt_of_cell? _ _ hw160_0; first | rwa [add_block] at this | exact this) GW162.out)) | (dsimp only; exact Nat.ne_of_lt (Nat.lt_of_lt_of_le (by have := World.block_lt_of_cell? _ _ hw160_0; first | rwa [add_block] at this | exact this) GW162.out))) _).trans (((cell_far (p := ⟨gb162, _, none⟩) (by first | exact Nat.ne_of_lt (Nat.lt_of_lt_of_le (by have := World.block_lt_of_cell? _ _ hw160_0; first | rwa [add_block] at this | exact this) GW162.out) | (rw [add_block]; exact Nat.ne_of_lt (Nat.lt_of_lt_of_le (by have := World.block_lt_of_cell? _ _ hw160_0; first | rwa [add_block] at this | exact this) GW162.out)) | (show (Addr.add _ _).block ≠ _; rw [add_block]; exact Nat.ne_of_lt (Nat.lt_of_lt_of_le (by have := World.block_lt_of_cell? _ _ hw160_0; first | rwa [add_block] at this | exact this) GW162.out)) | (dsimp only; exact Nat.ne_of_lt (Nat.lt_of_lt_of_le (by have := World.block_lt_of_cell? _ _ hw160_0; first | rwa [add_block] at this | exact this) GW162.out))) _).trans (((cell_far (p := ⟨gb162, _, none⟩) (by first | exact Nat.ne_of_lt (Nat.lt_of_lt_of_le (by have := World.block_lt_of_cell? _ _ hw160_0; first | rwa [add_block] at this | exact this) GW162.out) | (rw [add_block]; exact Nat.ne_of_lt (Nat.lt_of_lt_of_le (by have := World.block_lt_of_cell? _ _ hw160_0; first | rwa [add_block] at this | exact this) GW162.out)) | (show (Addr.add _ _).block ≠ _; rw [add_block]; exact Nat.ne_of_lt (Nat.lt_of_lt_of_le (by have := World.block_lt_of_cell? _ _ hw160_0; first | rwa [add_block] at this | exact this) GW162.out)) | (dsimp only; exact Nat.ne_of_lt (Nat.lt_of_lt_of_le (by have := World.block_lt_of_cell? _ _ hw160_0; first | rwa [add_block] at this | exact this) GW162.out))) _).trans (((cell_far (p := ⟨gb162, _, none⟩) (by first | exact Nat.ne_of_lt (Nat.lt_of_lt_of_le (by have := World.block_lt_of_cell? _ _ hw160_0; first | rwa [add_block] at this | exact this) GW162.out) | (rw [add_block]; exact Nat.ne_of_lt (Nat.lt_of_lt_of_le (by have := World.block_lt_of_cell? _ _ hw160_0; first | rwa [add_block] at this | exact this) GW162.out)) | (show (Addr.add _ _).block ≠ _; rw [add_block]; exact Nat.ne_of_lt (Nat.lt_of_lt_of_le (by have := World.block_lt_of_cell? _ _ hw160_0; first | rwa [add_block] at this | exact this) GW162.out)) | (dsimp only; exact Nat.ne_of_lt (Nat.lt_of_lt_of_le (by have := World.block_lt_of_cell? _ _ hw160_0; first | rwa [add_block] at this | exact this) GW162.out))) _).trans (((cell_far (p := ⟨gb162, _, none⟩) (by first | exact Nat.ne_of_lt (Nat.lt_of_lt_of_le (by have := World.block_lt_of_cell? _ _ hw160_0; first | rwa [add_block] at this | exact this) GW162.out) | (rw [add_block]; exact Nat.ne_of_lt (Nat.lt_of_lt_of_le (by have := World.block_lt_of_cell? _ _ hw160_0; first | rwa [add_block] at this | exact this) GW162.out)) | (show (Addr.add _ _).block ≠ _; rw [add_block]; exact Nat.ne_of_lt (Nat.lt_of_lt_of_le (by have := World.block_lt_of_cell? _ _ hw160_0; first | rwa [add_block] at this | exact this) GW162.out)) | (dsimp only; exact Nat.ne_of_lt (Nat.lt_of_lt_of_le (by have := World.block_lt_of_cell? _ _ hw160_0; first | rwa [add_block] at this | exact this) GW162.out))) _).trans (hHeld.2.2.1)))))))))), ((cell_far (p := ⟨gb162, _, none⟩) (by first | exact Nat.ne_of_lt (Nat.lt_of_lt_of_le (by have := World.block_lt_of_cell? _ _ hw161_0; first | rwa [add_block] at this | exact this) GW162.out) | (rw [add_block]; exact Nat.ne_of_lt (Nat.lt_of_lt_of_le (by have := World.block_lt_of_cell? _ _ hw161_0; first | rwa [add_block] at this | exact this) GW162.out)) | (show (Addr.add _ _).block ≠ _; rw [add_block]; exact Nat.ne_of_lt (Nat.lt_of_lt_of_le (by have := World.block_lt_of_cell? _ _ hw161_0; first | rwa [add_block] at this | exact this) GW162.out)) | (dsimp only; exact Nat.ne_of_lt (Nat.lt_of_lt_of_le (by have := World.block_lt_of_cell? _ _ hw161_0; first | rwa [add_block] at this | exact this) GW162.out))) _).trans (((cell_far (p := ⟨gb162, _, none⟩) (by first | exact Nat.ne_of_lt (Nat.lt_of_lt_of_le (by have := World.block_lt_of_cell? _ _ hw161_0; first | rwa [add_block] at this | exact this) GW162.out) | (rw [add_block]; exact Nat.ne_of_lt (Nat.lt_of_lt_of_le (by have := World.block_lt_of_cell? _ _ hw161_0; first | rwa [add_block] at this | exact this) GW162.out)) | (show (Addr.add _ _).block ≠ _; rw [add_block]; exact Nat.ne_of_lt (Nat.lt_of_lt_of_le (by have := World.block_lt_of_cell? _ _ hw161_0; first | rwa [add_block] at this | exact this) GW162.out)) | (dsimp only; exact Nat.ne_of_lt (Nat.lt_of_lt_of_le (by have := World.block_lt_of_cell? _ _ hw161_0; first | rwa [add_block] at this | exact this) GW162.out))) _).trans (((cell_far (p := ⟨gb162, _, none⟩) (by first | exact Nat.ne_of_lt (Nat.lt_of_lt_of_le (by have := World.block_lt_of_cell? _ _ hw161_0; first | rwa [add_block] at this | exact this) GW162.out) | (rw [add_block]; exact Nat.ne_of_lt (Nat.lt_of_lt_of_le (by have := World.block_lt_of_cell? _ _ hw161_0; first | rwa [add_block] at this | exact this) GW162.out)) | (show (Addr.add _ _).block ≠ _; rw [add_block]; exact Nat.ne_of_lt (Nat.lt_of_lt_of_le (by have := World.block_lt_of_cell? _ _ hw161_0; first | rwa [add_block] at this | exact this) GW162.out)) | (dsimp only; exact Nat.ne_of_lt (Nat.lt_of_lt_of_le (by have := World.block_lt_of_cell? _ _ hw161_0; first | rwa [add_block] at this | exact this) GW162.out))) _).trans (((cell_far (p := ⟨gb162, _, none⟩) (by first | exact Nat.ne_of_lt (Nat.lt_of_lt_of_le (by have := World.block_lt_of_cell? _ _ hw161_0; first | rwa [add_block] at this | exact this) GW162.out) | (rw [add_block]; exact Nat.ne_of_lt (Nat.lt_of_lt_of_le (by have := World.block_lt_of_cell? _ _ hw161_0; first | rwa [add_block] at this | exact this) GW162.out)) | (show (Addr.add _ _).block ≠ _; rw [add_block]; exact Nat.ne_of_lt (Nat.lt_of_lt_of_le (by have := World.block_lt_of_cell? _ _ hw161_0; first | rwa [add_block] at this | exact this) GW162.out)) | (dsimp only; exact Nat.ne_of_lt (Nat.lt_of_lt_of_le (by have := World.block_lt_of_cell? _ _ hw161_0; first | rwa [add_block] at this | exact this) GW162.out))) _).trans (((cell_far (p := ⟨gb162, _, none⟩) (by first | exact Nat.ne_of_lt (Nat.lt_of_lt_of_le (by have := World.block_lt_of_cell? _ _ hw161_0; first | rwa [add_block] at this | exact this) GW162.out) | (rw [add_block]; exact Nat.ne_of_lt (Nat.lt_of_lt_of_le (by have := World.block_lt_of_cell? _ _ hw161_0; first | rwa [add_block] at this | exact this) GW162.out)) | (show (Addr.add _ _).block ≠ _; rw [add_block]; exact Nat.ne_of_lt (Nat.lt_of_lt_of_le (by have := World.block_lt_of_cell? _ _ hw161_0; first | rwa [add_block] at this | exact this) GW162.out)) | (dsimp only; exact Nat.ne_of_lt (Nat.lt_of_lt_of_le (by have := World.block_lt_of_cell? _ _ hw161_0; first | rwa [add_block] at this | exact this) GW162.out))) _).trans (hHeld.2.2.2))))))))))⟩ (fun hHeld => ?_)
           clear hK K
           refine done_ (done_of HT_.out (by kernel_rfl)) ?_
           have hnb22 := NB162_153.out
           have hnc22 := NB153_162.out
           have hcz23_0 : w16.cell? ⟨gb162, 0, none⟩ = some (.int .i64 0) := (blk_cell BK162.out 0).trans rfl
           have hcz23_1 : w16.cell? ⟨gb162, 1, none⟩ = some (.int .i64 0) := (blk_cell BK162.out 1).trans rfl
           have hcz23_2 : w16.cell? ⟨gb162, 2, none⟩ = some (.int .i64 0) := (blk_cell BK162.out 2).trans rfl
           have hcz23_3 : w16.cell? ⟨gb162, 3, none⟩ = some (.int .i64 0) := (blk_cell BK162.out 3).trans rfl
           have hcz23_4 : w16.cell? ⟨gb162, 4, none⟩ = some (.int .i64 0) := (blk_cell BK162.out 4).trans rfl
           have hfz23_0 := blk_frozen BK162.out 0
           have hfz23_1 := blk_frozen BK162.out 1
           have hfz23_2 := blk_frozen BK162.out 2
           have hfz23_3 := blk_frozen BK162.out 3
           have hfz23_4 := blk_frozen BK162.out 4
           try go_wp2_with (first | ((with_reducible refine gate_callee (f := 33) rfl ?_); refine goesL_ (some 52) rfl rfl Try.func33 (by kernel_rfl) rfl #[.agg #[.int .i64 (wrap64 (rd l0 0)), .int .i64 (wrap64 (rd l0 1)), .int .i64 (wrap64 (rd l0 2)), .int .i64 (wrap64 (rd l0 3)), .int .i64 (wrap64 (wrap32 (Go.bits .or .u32 (Go.bits .or .u32 (Go.bits .or .u32 ((rd l0 4) % 4294967296) ((((rd l0 5) % 4294967296) * 256) % 4294967296)) ((((rd l0 6) % 4294967296) * 65536) % 4294967296)) ((((rd l0 7) % 4294967296) * 16777216) % 4294967296))))]] rfl (by (try simp only [List.map_toArray, List.map_cons, List.map_nil]); first | done | rfl | (simp only [List.length_drop, List.length_take]; rfl)) ?_; (with_reducible refine (impl_InsFault.calls k (wrap64 (rd l0 0)) (wrap64 (rd l0 1)) (wrap64 (rd l0 2)) (wrap64 (rd l0 3)) (wrap64 (wrap32 (Go.bits .or .u32 (Go.bits .or .u32 (Go.bits .or .u32 ((rd l0 4) % 4294967296) ((((rd l0 5) % 4294967296) * 256) % 4294967296)) ((((rd l0 6) % 4294967296) * 65536) % 4294967296)) ((((rd l0 7) % 4294967296) * 16777216) % 4294967296)))) true _ A11.out).mono ?_); rintro e w24 ⟨rfl, hb⟩; refine ⟨_, rfl, ?_⟩; have n0_ := Aside0.mk (blk_below (g := gb153) (o := .cells #[.bool false, .int .i64 0, .int .i64 0, .int .i64 0, .int .i64 0, .int .i64 0] 47 (0, 0)) (by refine blk_far ?_ NB153_162.out _; refine blk_far ?_ NB153_162.out _; refine blk_far ?_ NB153_162.out _; refine blk_far ?_ NB153_162.out _; refine blk_far ?_ NB153_162.out _; exact BK153.out) hb); have n1_ := Aside0.mk (blk_below (g := gb162) (o := .cells #[.int .i64 (wrap64 (rd l0 0)), .int .i64 (wrap64 (rd l0 1)), .int .i64 (wrap64 (rd l0 2)), .int .i64 (wrap64 (rd l0 3)), .int .i64 (wrap64 (wrap32 (Go.bits .or .u32 (Go.bits .or .u32 (Go.bits .or .u32 ((rd l0 4) % 4294967296) ((((rd l0 5) % 4294967296) * 256) % 4294967296)) ((((rd l0 6) % 4294967296) * 65536) % 4294967296)) ((((rd l0 7) % 4294967296) * 16777216) % 4294967296))))] 41 (0, 0)) (by refine blk_put (cs := #[.int .i64 (wrap64 (rd l0 0)), .int .i64 (wrap64 (rd l0 1)), .int .i64 (wrap64 (rd l0 2)), .int .i64 (wrap64 (rd l0 3)), .int .i64 0]) ?_ 4 _ rfl; refine blk_put (cs := #[.int .i64 (wrap64 (rd l0 0)), .int .i64 (wrap64 (rd l0 1)), .int .i64 (wrap64 (rd l0 2)), .int .i64 0, .int .i64 0]) ?_ 3 _ rfl; refine blk_put (cs := #[.int .i64 (wrap64 (rd l0 0)), .int .i64 (wrap64 (rd l0 1)), .int .i64 0, .int .i64 0, .int .i64 0]) ?_ 2 _ rfl; refine blk_put (cs := #[.int .i64 (wrap64 (rd l0 0)), .int .i64 0, .int .i64 0, .int .i64 0, .int .i64 0]) ?_ 1 _ rfl; refine blk_put (cs := #[.int .i64 0, .int .i64 0, .int .i64 0, .int .i64 0, .int .i64 0]) ?_ 0 _ rfl; exact BK162.out) hb); have n2_ := Aside0.mk (below_step (by repeat (first | (with_reducible first | exact HB.out | apply below_alloc | apply pw_below_drewN | apply below_drew1 | refine below_set ?_ GE153.out | refine below_set ?_ GE162.out) | exact HB.out)) hb); clear BK153; clear BK162; clear HB; have BK153 := n0_; have BK162 := n1_; have HB := n2_; clear n0_ n1_ n2_; (try clear hb); (try clear hb2); (try clear hk); (try clear hi); have hcz25_0 : w24.cell? ⟨gb153, 0, none⟩ = some (.bool false) := (blk_cell BK153.out 0).trans rfl; have hcz25_1 : w24.cell? ⟨gb153, 1, none⟩ = some (.int .i64 0) := (blk_cell BK153.out 1).trans rfl; have hcz25_2 : w24.cell? ⟨gb153, 2, none⟩ = some (.int .i64 0) := (blk_cell BK153.out 2).trans rfl; have hcz25_3 : w24.cell? ⟨gb153, 3, none⟩ = some (.int .i64 0) := (blk_cell BK153.out 3).trans rfl; have hcz25_4 : w24.cell? ⟨gb153, 4, none⟩ = some (.int .i64 0) := (blk_cell BK153.out 4).trans rfl; have hcz25_5 : w24.cell? ⟨gb153, 5, none⟩ = some (.int .i64 0) := (blk_cell BK153.out 5).trans rfl; have hfz25_0 := blk_frozen BK153.out 0; have hfz25_1 := blk_frozen BK153.out 1; have hfz25_2 := blk_frozen BK153.out 2; have hfz25_3 := blk_frozen BK153.out 3; have hfz25_4 := blk_frozen BK153.out 4; have hfz25_5 := blk_frozen BK153.out 5))
           refine bodyPost_ret (results_cell_row rfl _ _ gb153 47 #[.bool false, .int .i64 0, .int .i64 0, .int .i64 0, .int .i64 0, .int .i64 0] (0, 0) _ rfl (by refine blk_put (cs := #[.bool false, .int .i64 0, .int .i64 0, .int .i64 0, .int .i64 0, .int .i64 0]) ?_ 5 _ rfl; refine blk_put (cs := #[.bool false, .int .i64 0, .int .i64 0, .int .i64 0, .int .i64 0, .int .i64 0]) ?_ 4 _ rfl; refine blk_put (cs := #[.bool false, .int .i64 0, .int .i64 0, .int .i64 0, .int .i64 0, .int .i64 0]) ?_ 3 _ rfl; refine blk_put (cs := #[.bool false, .int .i64 0, .int .i64 0, .int .i64 0, .int .i64 0, .int .i64 0]) ?_ 2 _ rfl; refine blk_put (cs := #[.bool false, .int .i64 0, .int .i64 0, .int .i64 0, .int .i64 0, .int .i64 0]) ?_ 1 _ rfl; refine blk_put (cs := #[.bool false, .int .i64 0, .int .i64 0, .int .i64 0, .int .i64 0, .int .i64 0]) ?_ 0 _ rfl; exact BK153.out) Try.underlying47 rfl (by kernel_rfl)) rfl ?_
           exact ⟨by first | rfl | (simp [*] <;> rfl), by repeat (first | (with_reducible first | exact HB.out | apply below_alloc | apply pw_below_drewN | apply below_drew1 | refine below_set ?_ GE153.out | refine below_set ?_ GE162.out) | exact HB.out)⟩
          ·replace c12 := Bool.eq_false_iff.mpr c12
           subst c12
           rw [if_neg (show ¬ (false = true) by decide)] at H
           simp only [Option.some.injEq, Prod.mk.injEq] at H
           obtain ⟨rfl, rfl, rfl, rfl, rfl, rfl⟩ := H
           go_enter Try.func30, Try.ntmps30
           try go_wp2_with (first | ((with_reducible refine gate_dst (N := 2) rfl ?_); refine box_event ?hg (N := 2) ?hd (cs := #[.bool false, .int .i64 0, .int .i64 0, .int .i64 0, .int .i64 0, .int .i64 0]) (t := 47) ?hr ?_; (case hd => rfl); (case hg => rfl); (case hr => first | (go_simp; done) | (go_simp; rfl)); intro gb153 hg w26 hbox hb; have n0_ := Aside0.mk (below_step (by repeat (first | (with_reducible first | exact HB.out | apply below_alloc | apply pw_below_drewN | apply below_drew1) | exact HB.out)) hb); have n1_ := Aside0.mk (hbox); have n2_ := Aside0.mk ((by rw [hg]; exact (below_size (by repeat (first | (with_reducible first | exact HB.out | apply below_alloc | apply pw_below_drewN | apply below_drew1) | exact HB.out))) : w.heap.size ≤ gb153)); have n3_ := Aside0.mk ((by rw [hg]; exact (below_size (by repeat (first | (with_reducible first | exact HB.out | apply below_alloc | apply pw_below_drewN | apply below_drew1) | exact HB.out))) : w.heap.size ≤ gb153)); clear HB; have HB := n0_; have BK153 := n1_; have GW153 := n2_; have GE153 := n3_; clear n0_ n1_ n2_ n3_; clear hb hbox hg))
           have n0_ := Aside0.mk (blk_drew BK153.out)
           have n1_ := Aside0.mk (below_drew1 HB.out)
           clear BK153
           clear HB
           have BK153 := n0_
           have HB := n1_
           clear n0_ n1_
           have p154 : 0 ≤ (4 : Int) := (by omega)
           have q154 : 4 < (l0.length : Int) := of_decide_eq_true (by first | (with_reducible assumption) | assumption)
           obtain ⟨ad154, e154, hx154_0⟩ := Kd.at_int HR0.out 4 p154 q154
           have hw154_0 := hx154_0
           (try rw [show ((4 : Int)).toNat = 4 from rfl] at hw154_0)
           (try rw [show 4 * 1 = 4 from rfl] at hw154_0)
           (try simp only [Nat.reduceMul, Nat.reduceEqDiff, Go.Addr.add, ↓reduceIte] at hw154_0)
           cases e154
           (try simp only [show (4 : Int).toNat = 4 from rfl, Nat.reduceMul, Nat.reduceEqDiff, Go.Addr.add, ↓reduceIte] at hx154_0)
           have qi154 : (4 < l0.length) = True := eq_true (by omega)
           (try rw [show ((4 : Int)).toNat = 4 from rfl] at hx154_0)
           replace hx154_0 := (HB.out.cell (World.block_lt_of_cell? w _ hx154_0)).trans hx154_0
           replace p154 := eq_true p154
           replace q154 := eq_true q154
           have p155 : 0 ≤ (5 : Int) := (by omega)
           have q155 : 5 < (l0.length : Int) := of_decide_eq_true (by first | (with_reducible assumption) | assumption)
           obtain ⟨ad155, e155, hx155_0⟩ := Kd.at_int HR0.out 5 p155 q155
           have hw155_0 := hx155_0
           (try rw [show ((5 : Int)).toNat = 5 from rfl] at hw155_0)
           (try rw [show 5 * 1 = 5 from rfl] at hw155_0)
           (try simp only [Nat.reduceMul, Nat.reduceEqDiff, Go.Addr.add, ↓reduceIte] at hw155_0)
           obtain rfl : ad154 = ad155 := (by injection e155)
           (try simp only [show (5 : Int).toNat = 5 from rfl, Nat.reduceMul, Nat.reduceEqDiff, Go.Addr.add, ↓reduceIte] at hx155_0)
           have qi155 : (5 < l0.length) = True := eq_true (by omega)
           (try rw [show ((5 : Int)).toNat = 5 from rfl] at hx155_0)
           replace hx155_0 := (HB.out.cell (World.block_lt_of_cell? w _ hx155_0)).trans hx155_0
           replace p155 := eq_true p155
           replace q155 := eq_true q155
           have p156 : 0 ≤ (6 : Int) := (by omega)
           have q156 : 6 < (l0.length : Int) := of_decide_eq_true (by first | (with_reducible assumption) | assumption)
           obtain ⟨ad156, e156, hx156_0⟩ := Kd.at_int HR0.out 6 p156 q156
           have hw156_0 := hx156_0
           (try rw [show ((6 : Int)).toNat = 6 from rfl] at hw156_0)
           (try rw [show 6 * 1 = 6 from rfl] at hw156_0)
           (try simp only [Nat.reduceMul, Nat.reduceEqDiff, Go.Addr.add, ↓reduceIte] at hw156_0)
           obtain rfl : ad154 = ad156 := (by injection e156)
           (try simp only [show (6 : Int).toNat = 6 from rfl, Nat.reduceMul, Nat.reduceEqDiff, Go.Addr.add, ↓reduceIte] at hx156_0)
           have qi156 : (6 < l0.length) = True := eq_true (by omega)
           (try rw [show ((6 : Int)).toNat = 6 from rfl] at hx156_0)
           replace hx156_0 := (HB.out.cell (World.block_lt_of_cell? w _ hx156_0)).trans hx156_0
           replace p156 := eq_true p156
           replace q156 := eq_true q156
           have p157 : 0 ≤ (7 : Int) := (by omega)
           have q157 : 7 < (l0.length : Int) := of_decide_eq_true (by first | (with_reducible assumption) | assumption)
           obtain ⟨ad157, e157, hx157_0⟩ := Kd.at_int HR0.out 7 p157 q157
           have hw157_0 := hx157_0
           (try rw [show ((7 : Int)).toNat = 7 from rfl] at hw157_0)
           (try rw [show 7 * 1 = 7 from rfl] at hw157_0)
           (try simp only [Nat.reduceMul, Nat.reduceEqDiff, Go.Addr.add, ↓reduceIte] at hw157_0)
           obtain rfl : ad154 = ad157 := (by injection e157)
           (try simp only [show (7 : Int).toNat = 7 from rfl, Nat.reduceMul, Nat.reduceEqDiff, Go.Addr.add, ↓reduceIte] at hx157_0)
           have qi157 : (7 < l0.length) = True := eq_true (by omega)
           (try rw [show ((7 : Int)).toNat = 7 from rfl] at hx157_0)
           replace hx157_0 := (HB.out.cell (World.block_lt_of_cell? w _ hx157_0)).trans hx157_0
           replace p157 := eq_true p157
           replace q157 := eq_true q157
           refine start_ (n := 23) (S := fun w' => w'.cell? ⟨ad154.block, ad154.off + 4, none⟩ = some (.int .u8 (rd l0 4)) ∧ w'.cell? ⟨ad154.block, ad154.off + 5, none⟩ = some (.int .u8 (rd l0 5)) ∧ w'.cell? ⟨ad154.block, ad154.off + 6, none⟩ = some (.int .u8 (rd l0 6)) ∧ w'.cell? ⟨ad154.block, ad154.off + 7, none⟩ = some (.int .u8 (rd l0 7))) (ds := []) #[false, false, false, false, false, false, false, false, false, false, false, false, false, false, false, false, false, false, false, false, false, false, false] (by kernel_rfl) rfl rfl ⟨((HB.out.cell (World.block_lt_of_cell? w _ hw154_0)).trans hw154_0), ((HB.out.cell (World.block_lt_of_cell? w _ hw155_0)).trans hw155_0), ((HB.out.cell (World.block_lt_of_cell? w _ hw156_0)).trans hw156_0), ((HB.out.cell (World.block_lt_of_cell? w _ hw157_0)).trans hw157_0)⟩ (fun hHeld => ?_); refine with_tabW impl_DecodeIns.tab3 impl_DecodeIns.bits3 (fun HT_ HW_ => ?_)
           generalize w26.drew = w27 at BK153 HB hx154_0 hx155_0 hx156_0 hx157_0 hHeld ⊢
           refine pure_ (i := 0) (N := some 9) (v := ?_) (a' := ?_) #[true, false, false, false, false, false, false, false, false, false, false, false, false, false, false, false, false, false, false, false, false, false, false] rfl rfl (any_of HT_.out (by kernel_rfl)) (fun _ _ _ h => h) (Or.inl ⟨by rfl, ?_⟩) ?_ ?_
           rotate_left
           ·intro w'
            go_simp
            with_reducible rfl
           rotate_left
           ·simp only [Act.put, List.setIfInBounds_toArray, List.set_cons_zero, List.set_cons_succ, i64_w, i32_w]
            rfl
           refine pure_ (i := 1) (N := some 10) (v := ?_) (a' := ?_) #[true, true, false, false, false, false, false, false, false, false, false, false, false, false, false, false, false, false, false, false, false, false, false] rfl rfl (any_of HT_.out (by kernel_rfl)) (fun _ _ _ h => h) (Or.inl ⟨by rfl, ?_⟩) ?_ ?_
           rotate_left
           ·intro w'
            go_simp
            with_reducible rfl
           rotate_left
           ·simp only [Act.put, List.setIfInBounds_toArray, List.set_cons_zero, List.set_cons_succ, i64_w, i32_w]
            rfl
           refine pure_ (i := 4) (N := some 13) (v := ?_) (a' := ?_) #[true, true, false, false, true, false, false, false, false, false, false, false, false, false, false, false, false, false, false, false, false, false, false] rfl rfl (any_of HT_.out (by kernel_rfl)) (fun _ _ _ h => h) (Or.inl ⟨by rfl, ?_⟩) ?_ ?_
           rotate_left
           ·intro w'
            go_simp
            with_reducible rfl
           rotate_left
           ·simp only [Act.put, List.setIfInBounds_toArray, List.set_cons_zero, List.set_cons_succ, i64_w, i32_w]
            rfl
           refine pure_ (i := 5) (N := some 14) (v := ?_) (a' := ?_) #[true, true, false, false, true, true, false, false, false, false, false, false, false, false, false, false, false, false, false, false, false, false, false] rfl rfl (any_of HT_.out (by kernel_rfl)) (fun _ _ _ h => h) (Or.inl ⟨by rfl, ?_⟩) ?_ ?_
           rotate_left
           ·intro w'
            go_simp
            with_reducible rfl
           rotate_left
           ·simp only [Act.put, List.setIfInBounds_toArray, List.set_cons_zero, List.set_cons_succ, i64_w, i32_w]
            rfl
           refine pure_ (i := 10) (N := some 19) (v := ?_) (a' := ?_) #[true, true, false, false, true, true, false, false, false, false, true, false, false, false, false, false, false, false, false, false, false, false, false] rfl rfl (any_of HT_.out (by kernel_rfl)) (fun _ _ _ h => h) (Or.inl ⟨by rfl, ?_⟩) ?_ ?_
           rotate_left
           ·intro w'
            go_simp
            with_reducible rfl
           rotate_left
           ·simp only [Act.put, List.setIfInBounds_toArray, List.set_cons_zero, List.set_cons_succ, i64_w, i32_w]
            rfl
           refine pure_ (i := 11) (N := some 20) (v := ?_) (a' := ?_) #[true, true, false, false, true, true, false, false, false, false, true, true, false, false, false, false, false, false, false, false, false, false, false] rfl rfl (any_of HT_.out (by kernel_rfl)) (fun _ _ _ h => h) (Or.inl ⟨by rfl, ?_⟩) ?_ ?_
           rotate_left
           ·intro w'
            go_simp
            with_reducible rfl
           rotate_left
           ·simp only [Act.put, List.setIfInBounds_toArray, List.set_cons_zero, List.set_cons_succ, i64_w, i32_w]
            rfl
           refine pure_ (i := 16) (N := some 25) (v := ?_) (a' := ?_) #[true, true, false, false, true, true, false, false, false, false, true, true, false, false, false, false, true, false, false, false, false, false, false] rfl rfl (any_of HT_.out (by kernel_rfl)) (fun _ _ _ h => h) (Or.inl ⟨by rfl, ?_⟩) ?_ ?_
           rotate_left
           ·intro w'
            go_simp
            with_reducible rfl
           rotate_left
           ·simp only [Act.put, List.setIfInBounds_toArray, List.set_cons_zero, List.set_cons_succ, i64_w, i32_w]
            rfl
           refine pure_ (i := 17) (N := some 26) (v := ?_) (a' := ?_) #[true, true, false, false, true, true, false, false, false, false, true, true, false, false, false, false, true, true, false, false, false, false, false] rfl rfl (any_of HT_.out (by kernel_rfl)) (fun _ _ _ h => h) (Or.inl ⟨by rfl, ?_⟩) ?_ ?_
           rotate_left
           ·intro w'
            go_simp
            with_reducible rfl
           rotate_left
           ·simp only [Act.put, List.setIfInBounds_toArray, List.set_cons_zero, List.set_cons_succ, i64_w, i32_w]
            rfl
           refine take_ (i := 2) (N := some 11) (v := ?_) (a' := ?_) #[true, true, true, false, true, true, false, false, false, false, true, true, false, false, false, false, true, true, false, false, false, false, false] rfl rfl (take_ofW HT_.out HW_.out (by kernel_rfl)) (fun _ _ _ h => h) (Or.inl ⟨by rfl, ?_⟩) hHeld ?_ ?_
           rotate_left
           ·rintro w' ⟨s0, s1, s2, s3⟩
            go_simp
            with_reducible rfl
           rotate_left
           ·simp only [Act.put, List.setIfInBounds_toArray, List.set_cons_zero, List.set_cons_succ, i64_w, i32_w]
            rfl
           refine pure_ (i := 3) (N := some 12) (v := ?_) (a' := ?_) #[true, true, true, true, true, true, false, false, false, false, true, true, false, false, false, false, true, true, false, false, false, false, false] rfl rfl (any_of HT_.out (by kernel_rfl)) (fun _ _ _ h => h) (Or.inl ⟨by rfl, ?_⟩) ?_ ?_
           rotate_left
           ·intro w'
            go_simp
            with_reducible rfl
           rotate_left
           ·simp only [Act.put, List.setIfInBounds_toArray, List.set_cons_zero, List.set_cons_succ, i64_w, i32_w]
            rfl
           refine take_ (i := 6) (N := some 15) (v := ?_) (a' := ?_) #[true, true, true, true, true, true, true, false, false, false, true, true, false, false, false, false, true, true, false, false, false, false, false] rfl rfl (take_ofW HT_.out HW_.out (by kernel_rfl)) (fun _ _ _ h => h) (Or.inl ⟨by rfl, ?_⟩) hHeld ?_ ?_
           rotate_left
           ·rintro w' ⟨s0, s1, s2, s3⟩
            go_simp
            with_reducible rfl
           rotate_left
           ·simp only [Act.put, List.setIfInBounds_toArray, List.set_cons_zero, List.set_cons_succ, i64_w, i32_w]
            rfl
           refine pure_ (i := 7) (N := some 16) (v := ?_) (a' := ?_) #[true, true, true, true, true, true, true, true, false, false, true, true, false, false, false, false, true, true, false, false, false, false, false] rfl rfl (any_of HT_.out (by kernel_rfl)) (fun _ _ _ h => h) (Or.inl ⟨by rfl, ?_⟩) ?_ ?_
           rotate_left
           ·intro w'
            go_simp
            with_reducible rfl
           rotate_left
           ·simp only [Act.put, List.setIfInBounds_toArray, List.set_cons_zero, List.set_cons_succ, i64_w, i32_w]
            rfl
           refine pure_ (i := 8) (N := some 17) (v := ?_) (a' := ?_) #[true, true, true, true, true, true, true, true, true, false, true, true, false, false, false, false, true, true, false, false, false, false, false] rfl rfl (any_of HT_.out (by kernel_rfl)) (fun _ _ _ h => h) (Or.inl ⟨by rfl, ?_⟩) ?_ ?_
           rotate_left
           ·intro w'
            go_simp
            with_reducible rfl
           rotate_left
           ·simp only [Act.put, List.setIfInBounds_toArray, List.set_cons_zero, List.set_cons_succ, i64_w, i32_w]
            rfl
           refine pure_ (i := 9) (N := some 18) (v := ?_) (a' := ?_) #[true, true, true, true, true, true, true, true, true, true, true, true, false, false, false, false, true, true, false, false, false, false, false] rfl rfl (any_of HT_.out (by kernel_rfl)) (fun _ _ _ h => h) (Or.inl ⟨by rfl, ?_⟩) ?_ ?_
           rotate_left
           ·intro w'
            go_simp
            with_reducible rfl
           rotate_left
           ·simp only [Act.put, List.setIfInBounds_toArray, List.set_cons_zero, List.set_cons_succ, i64_w, i32_w]
            rfl
           refine take_ (i := 12) (N := some 21) (v := ?_) (a' := ?_) #[true, true, true, true, true, true, true, true, true, true, true, true, true, false, false, false, true, true, false, false, false, false, false] rfl rfl (take_ofW HT_.out HW_.out (by kernel_rfl)) (fun _ _ _ h => h) (Or.inl ⟨by rfl, ?_⟩) hHeld ?_ ?_
           rotate_left
           ·rintro w' ⟨s0, s1, s2, s3⟩
            go_simp
            with_reducible rfl
           rotate_left
           ·simp only [Act.put, List.setIfInBounds_toArray, List.set_cons_zero, List.set_cons_succ, i64_w, i32_w]
            rfl
           refine pure_ (i := 13) (N := some 22) (v := ?_) (a' := ?_) #[true, true, true, true, true, true, true, true, true, true, true, true, true, true, false, false, true, true, false, false, false, false, false] rfl rfl (any_of HT_.out (by kernel_rfl)) (fun _ _ _ h => h) (Or.inl ⟨by rfl, ?_⟩) ?_ ?_
           rotate_left
           ·intro w'
            go_simp
            with_reducible rfl
           rotate_left
           ·simp only [Act.put, List.setIfInBounds_toArray, List.set_cons_zero, List.set_cons_succ, i64_w, i32_w]
            rfl
           refine pure_ (i := 14) (N := some 23) (v := ?_) (a' := ?_) #[true, true, true, true, true, true, true, true, true, true, true, true, true, true, true, false, true, true, false, false, false, false, false] rfl rfl (any_of HT_.out (by kernel_rfl)) (fun _ _ _ h => h) (Or.inl ⟨by rfl, ?_⟩) ?_ ?_
           rotate_left
           ·intro w'
            go_simp
            with_reducible rfl
           rotate_left
           ·simp only [Act.put, List.setIfInBounds_toArray, List.set_cons_zero, List.set_cons_succ, i64_w, i32_w]
            rfl
           refine pure_ (i := 15) (N := some 24) (v := ?_) (a' := ?_) #[true, true, true, true, true, true, true, true, true, true, true, true, true, true, true, true, true, true, false, false, false, false, false] rfl rfl (any_of HT_.out (by kernel_rfl)) (fun _ _ _ h => h) (Or.inl ⟨by rfl, ?_⟩) ?_ ?_
           rotate_left
           ·intro w'
            go_simp
            with_reducible rfl
           rotate_left
           ·simp only [Act.put, List.setIfInBounds_toArray, List.set_cons_zero, List.set_cons_succ, i64_w, i32_w]
            rfl
           refine take_ (i := 18) (N := some 27) (v := ?_) (a' := ?_) #[true, true, true, true, true, true, true, true, true, true, true, true, true, true, true, true, true, true, true, false, false, false, false] rfl rfl (take_ofW HT_.out HW_.out (by kernel_rfl)) (fun _ _ _ h => h) (Or.inl ⟨by rfl, ?_⟩) hHeld ?_ ?_
           rotate_left
           ·rintro w' ⟨s0, s1, s2, s3⟩
            go_simp
            with_reducible rfl
           rotate_left
           ·simp only [Act.put, List.setIfInBounds_toArray, List.set_cons_zero, List.set_cons_succ, i64_w, i32_w]
            rfl
           refine pure_ (i := 19) (N := some 28) (v := ?_) (a' := ?_) #[true, true, true, true, true, true, true, true, true, true, true, true, true, true, true, true, true, true, true, true, false, false, false] rfl rfl (any_of HT_.out (by kernel_rfl)) (fun _ _ _ h => h) (Or.inl ⟨by rfl, ?_⟩) ?_ ?_
           rotate_left
           ·intro w'
            go_simp
            with_reducible rfl
           rotate_left
           ·simp only [Act.put, List.setIfInBounds_toArray, List.set_cons_zero, List.set_cons_succ, i64_w, i32_w]
            rfl
           refine pure_ (i := 20) (N := some 29) (v := ?_) (a' := ?_) #[true, true, true, true, true, true, true, true, true, true, true, true, true, true, true, true, true, true, true, true, true, false, false] rfl rfl (any_of HT_.out (by kernel_rfl)) (fun _ _ _ h => h) (Or.inl ⟨by rfl, ?_⟩) ?_ ?_
           rotate_left
           ·intro w'
            go_simp
            with_reducible rfl
           rotate_left
           ·simp only [Act.put, List.setIfInBounds_toArray, List.set_cons_zero, List.set_cons_succ, i64_w, i32_w]
            rfl
           refine pure_ (i := 21) (N := some 30) (v := ?_) (a' := ?_) #[true, true, true, true, true, true, true, true, true, true, true, true, true, true, true, true, true, true, true, true, true, true, false] rfl rfl (any_of HT_.out (by kernel_rfl)) (fun _ _ _ h => h) (Or.inl ⟨by rfl, ?_⟩) ?_ ?_
           rotate_left
           ·intro w'
            go_simp
            with_reducible rfl
           rotate_left
           ·simp only [Act.put, List.setIfInBounds_toArray, List.set_cons_zero, List.set_cons_succ, i64_w, i32_w]
            rfl
           refine pure_ (i := 22) (N := some 3) (v := ?_) (a' := ?_) #[true, true, true, true, true, true, true, true, true, true, true, true, true, true, true, true, true, true, true, true, true, true, true] rfl rfl (any_of HT_.out (by kernel_rfl)) (fun _ _ _ h => h) (Or.inl ⟨by rfl, ?_⟩) ?_ ?_
           rotate_left
           ·intro w'
            go_simp
            with_reducible rfl
           rotate_left
           ·simp only [Act.put, List.setIfInBounds_toArray, List.set_cons_zero, List.set_cons_succ, i64_w, i32_w]
            rfl
           refine done_ (done_of HT_.out (by kernel_rfl)) ?_
           try go_wp2
           have n0_ := Aside0.mk (blk_drew BK153.out)
           have n1_ := Aside0.mk (below_drew1 HB.out)
           clear BK153
           clear HB
           have BK153 := n0_
           have HB := n1_
           clear n0_ n1_
           have p158 : 0 ≤ (0 : Int) := (by omega)
           have q158 : 0 < (l0.length : Int) := of_decide_eq_true (by first | (with_reducible assumption) | assumption)
           obtain ⟨ad158, e158, hx158_0⟩ := Kd.at_int HR0.out 0 p158 q158
           have hw158_0 := hx158_0
           (try rw [show ((0 : Int)).toNat = 0 from rfl] at hw158_0)
           (try rw [show 0 * 1 = 0 from rfl] at hw158_0)
           (try rw [Addr.add_zero'] at hw158_0)
           obtain rfl : ad154 = ad158 := (by injection e158)
           have qi158 : (0 < l0.length) = True := eq_true (by omega)
           (try rw [show ((0 : Int)).toNat = 0 from rfl] at hx158_0)
           (try rw [Addr.add_zero'] at hx158_0)
           replace hx158_0 := (HB.out.cell (World.block_lt_of_cell? w _ hx158_0)).trans hx158_0
           replace p158 := eq_true p158
           replace q158 := eq_true q158
           have p159 : 0 ≤ (1 : Int) := (by omega)
           have q159 : 1 < (l0.length : Int) := of_decide_eq_true (by first | (with_reducible assumption) | assumption)
           obtain ⟨ad159, e159, hx159_0⟩ := Kd.at_int HR0.out 1 p159 q159
           have hw159_0 := hx159_0
           (try rw [show ((1 : Int)).toNat = 1 from rfl] at hw159_0)
           (try rw [show 1 * 1 = 1 from rfl] at hw159_0)
           (try simp only [Nat.reduceMul, Nat.reduceEqDiff, Go.Addr.add, ↓reduceIte] at hw159_0)
           obtain rfl : ad154 = ad159 := (by injection e159)
           (try simp only [show (1 : Int).toNat = 1 from rfl, Nat.reduceMul, Nat.reduceEqDiff, Go.Addr.add, ↓reduceIte] at hx159_0)
           have qi159 : (1 < l0.length) = True := eq_true (by omega)
           (try rw [show ((1 : Int)).toNat = 1 from rfl] at hx159_0)
           replace hx159_0 := (HB.out.cell (World.block_lt_of_cell? w _ hx159_0)).trans hx159_0
           replace p159 := eq_true p159
           replace q159 := eq_true q159
           have p160 : 0 ≤ (2 : Int) := (by omega)
           have q160 : 2 < (l0.length : Int) := of_decide_eq_true (by first | (with_reducible assumption) | assumption)
           obtain ⟨ad160, e160, hx160_0⟩ := Kd.at_int HR0.out 2 p160 q160
           have hw160_0 := hx160_0
           (try rw [show ((2 : Int)).toNat = 2 from rfl] at hw160_0)
           (try rw [show 2 * 1 = 2 from rfl] at hw160_0)
           (try simp only [Nat.reduceMul, Nat.reduceEqDiff, Go.Addr.add, ↓reduceIte] at hw160_0)
           obtain rfl : ad154 = ad160 := (by injection e160)
           (try simp only [show (2 : Int).toNat = 2 from rfl, Nat.reduceMul, Nat.reduceEqDiff, Go.Addr.add, ↓reduceIte] at hx160_0)
           have qi160 : (2 < l0.length) = True := eq_true (by omega)
           (try rw [show ((2 : Int)).toNat = 2 from rfl] at hx160_0)
           replace hx160_0 := (HB.out.cell (World.block_lt_of_cell? w _ hx160_0)).trans hx160_0
           replace p160 := eq_true p160
           replace q160 := eq_true q160
           have p161 : 0 ≤ (3 : Int) := (by omega)
           have q161 : 3 < (l0.length : Int) := of_decide_eq_true (by first | (with_reducible assumption) | assumption)
           obtain ⟨ad161, e161, hx161_0⟩ := Kd.at_int HR0.out 3 p161 q161
           have hw161_0 := hx161_0
           (try rw [show ((3 : Int)).toNat = 3 from rfl] at hw161_0)
           (try rw [show 3 * 1 = 3 from rfl] at hw161_0)
           (try simp only [Nat.reduceMul, Nat.reduceEqDiff, Go.Addr.add, ↓reduceIte] at hw161_0)
           obtain rfl : ad154 = ad161 := (by injection e161)
           (try simp only [show (3 : Int).toNat = 3 from rfl, Nat.reduceMul, Nat.reduceEqDiff, Go.Addr.add, ↓reduceIte] at hx161_0)
           have qi161 : (3 < l0.length) = True := eq_true (by omega)
           (try rw [show ((3 : Int)).toNat = 3 from rfl] at hx161_0)
           replace hx161_0 := (HB.out.cell (World.block_lt_of_cell? w _ hx161_0)).trans hx161_0
           replace p161 := eq_true p161
           replace q161 := eq_true q161
           refine start_ (n := 22) (S := fun w' => w'.cell? ad154 = some (.int .u8 (rd l0 0)) ∧ w'.cell? ⟨ad154.block, ad154.off + 1, none⟩ = some (.int .u8 (rd l0 1)) ∧ w'.cell? ⟨ad154.block, ad154.off + 2, none⟩ = some (.int .u8 (rd l0 2)) ∧ w'.cell? ⟨ad154.block, ad154.off + 3, none⟩ = some (.int .u8 (rd l0 3))) (ds := []) #[false, false, false, false, false, false, false, false, false, false, false, false, false, false, false, false, false, false, false, false, false, false] (by kernel_rfl) rfl rfl ⟨((HB.out.cell (World.block_lt_of_cell? w _ hw158_0)).trans hw158_0), ((HB.out.cell (World.block_lt_of_cell? w _ hw159_0)).trans hw159_0), ((HB.out.cell (World.block_lt_of_cell? w _ hw160_0)).trans hw160_0), ((HB.out.cell (World.block_lt_of_cell? w _ hw161_0)).trans hw161_0)⟩ (fun hHeld => ?_); refine with_tabW impl_DecodeIns.tab4 impl_DecodeIns.bits4 (fun HT_ HW_ => ?_)
           generalize w27.drew = w28 at BK153 HB hx158_0 hx159_0 hx160_0 hx161_0 hHeld ⊢
           refine pure_ (i := 0) (N := some 31) (v := ?_) (a' := ?_) #[true, false, false, false, false, false, false, false, false, false, false, false, false, false, false, false, false, false, false, false, false, false] rfl rfl (any_of HT_.out (by kernel_rfl)) (fun _ _ _ h => h) (Or.inl ⟨by rfl, ?_⟩) ?_ ?_
           rotate_left
           ·intro w'
            go_simp
            with_reducible rfl
           rotate_left
           ·simp only [Act.put, List.setIfInBounds_toArray, List.set_cons_zero, List.set_cons_succ, i64_w, i32_w]
            rfl
           refine pure_ (i := 1) (N := some 32) (v := ?_) (a' := ?_) #[true, true, false, false, false, false, false, false, false, false, false, false, false, false, false, false, false, false, false, false, false, false] rfl rfl (any_of HT_.out (by kernel_rfl)) (fun _ _ _ h => h) (Or.inl ⟨by rfl, ?_⟩) ?_ ?_
           rotate_left
           ·intro w'
            go_simp
            with_reducible rfl
           rotate_left
           ·simp only [Act.put, List.setIfInBounds_toArray, List.set_cons_zero, List.set_cons_succ, i64_w, i32_w]
            rfl
           refine pure_ (i := 4) (N := some 35) (v := ?_) (a' := ?_) #[true, true, false, false, true, false, false, false, false, false, false, false, false, false, false, false, false, false, false, false, false, false] rfl rfl (any_of HT_.out (by kernel_rfl)) (fun _ _ _ h => h) (Or.inl ⟨by rfl, ?_⟩) ?_ ?_
           rotate_left
           ·intro w'
            go_simp
            with_reducible rfl
           rotate_left
           ·simp only [Act.put, List.setIfInBounds_toArray, List.set_cons_zero, List.set_cons_succ, i64_w, i32_w]
            rfl
           refine pure_ (i := 5) (N := some 36) (v := ?_) (a' := ?_) #[true, true, false, false, true, true, false, false, false, false, false, false, false, false, false, false, false, false, false, false, false, false] rfl rfl (any_of HT_.out (by kernel_rfl)) (fun _ _ _ h => h) (Or.inl ⟨by rfl, ?_⟩) ?_ ?_
           rotate_left
           ·intro w'
            go_simp
            with_reducible rfl
           rotate_left
           ·simp only [Act.put, List.setIfInBounds_toArray, List.set_cons_zero, List.set_cons_succ, i64_w, i32_w]
            rfl
           refine pure_ (i := 8) (N := some 39) (v := ?_) (a' := ?_) #[true, true, false, false, true, true, false, false, true, false, false, false, false, false, false, false, false, false, false, false, false, false] rfl rfl (any_of HT_.out (by kernel_rfl)) (fun _ _ _ h => h) (Or.inl ⟨by rfl, ?_⟩) ?_ ?_
           rotate_left
           ·intro w'
            go_simp
            with_reducible rfl
           rotate_left
           ·simp only [Act.put, List.setIfInBounds_toArray, List.set_cons_zero, List.set_cons_succ, i64_w, i32_w]
            rfl
           refine pure_ (i := 9) (N := some 40) (v := ?_) (a' := ?_) #[true, true, false, false, true, true, false, false, true, true, false, false, false, false, false, false, false, false, false, false, false, false] rfl rfl (any_of HT_.out (by kernel_rfl)) (fun _ _ _ h => h) (Or.inl ⟨by rfl, ?_⟩) ?_ ?_
           rotate_left
           ·intro w'
            go_simp
            with_reducible rfl
           rotate_left
           ·simp only [Act.put, List.setIfInBounds_toArray, List.set_cons_zero, List.set_cons_succ, i64_w, i32_w]
            rfl
           refine pure_ (i := 12) (N := some 43) (v := ?_) (a' := ?_) #[true, true, false, false, true, true, false, false, true, true, false, false, true, false, false, false, false, false, false, false, false, false] rfl rfl (any_of HT_.out (by kernel_rfl)) (fun _ _ _ h => h) (Or.inl ⟨by rfl, ?_⟩) ?_ ?_
           rotate_left
           ·intro w'
            go_simp
            with_reducible rfl
           rotate_left
           ·simp only [Act.put, List.setIfInBounds_toArray, List.set_cons_zero, List.set_cons_succ, i64_w, i32_w]
            rfl
           refine pure_ (i := 13) (N := some 44) (v := ?_) (a' := ?_) #[true, true, false, false, true, true, false, false, true, true, false, false, true, true, false, false, false, false, false, false, false, false] rfl rfl (any_of HT_.out (by kernel_rfl)) (fun _ _ _ h => h) (Or.inl ⟨by rfl, ?_⟩) ?_ ?_
           rotate_left
           ·intro w'
            go_simp
            with_reducible rfl
           rotate_left
           ·simp only [Act.put, List.setIfInBounds_toArray, List.set_cons_zero, List.set_cons_succ, i64_w, i32_w]
            rfl
           refine pure_ (i := 16) (N := some 47) (v := ?_) (a' := ?_) #[true, true, false, false, true, true, false, false, true, true, false, false, true, true, false, false, true, false, false, false, false, false] rfl rfl (any_of HT_.out (by kernel_rfl)) (fun _ _ _ h => h) (Or.inl ⟨by rfl, ?_⟩) ?_ ?_
           rotate_left
           ·intro w'
            go_simp
            with_reducible rfl
           rotate_left
           ·simp only [Act.put, List.setIfInBounds_toArray, List.set_cons_zero, List.set_cons_succ, i64_w, i32_w]
            rfl
           refine pure_ (i := 17) (N := some 48) (v := ?_) (a' := ?_) #[true, true, false, false, true, true, false, false, true, true, false, false, true, true, false, false, true, true, false, false, false, false] rfl rfl (any_of HT_.out (by kernel_rfl)) (fun _ _ _ h => h) (Or.inl ⟨by rfl, ?_⟩) ?_ ?_
           rotate_left
           ·intro w'
            go_simp
            with_reducible rfl
           rotate_left
           ·simp only [Act.put, List.setIfInBounds_toArray, List.set_cons_zero, List.set_cons_succ, i64_w, i32_w]
            rfl
           refine pure_ (i := 18) (N := some 49) (v := ?_) (a' := ?_) #[true, true, false, false, true, true, false, false, true, true, false, false, true, true, false, false, true, true, true, false, false, false] rfl rfl (any_of HT_.out (by kernel_rfl)) (fun _ _ _ h => h) (Or.inl ⟨by rfl, ?_⟩) ?_ ?_
           rotate_left
           ·intro w'
            go_simp
            with_reducible rfl
           rotate_left
           ·simp only [Act.put, List.setIfInBounds_toArray, List.set_cons_zero, List.set_cons_succ, i64_w, i32_w]
            rfl
           refine take_ (i := 2) (N := some 33) (v := ?_) (a' := ?_) #[true, true, true, false, true, true, false, false, true, true, false, false, true, true, false, false, true, true, true, false, false, false] rfl rfl (take_ofW HT_.out HW_.out (by kernel_rfl)) (fun _ _ _ h => h) (Or.inl ⟨by rfl, ?_⟩) hHeld ?_ ?_
           rotate_left
           ·rintro w' ⟨s0, s1, s2, s3⟩
            go_simp
            with_reducible rfl
           rotate_left
           ·simp only [Act.put, List.setIfInBounds_toArray, List.set_cons_zero, List.set_cons_succ, i64_w, i32_w]
            rfl
           refine pure_ (i := 3) (N := some 34) (v := ?_) (a' := ?_) #[true, true, true, true, true, true, false, false, true, true, false, false, true, true, false, false, true, true, true, false, false, false] rfl rfl (any_of HT_.out (by kernel_rfl)) (fun _ _ _ h => h) (Or.inl ⟨by rfl, ?_⟩) ?_ ?_
           rotate_left
           ·intro w'
            go_simp
            with_reducible rfl
           rotate_left
           ·simp only [Act.put, List.setIfInBounds_toArray, List.set_cons_zero, List.set_cons_succ, i64_w, i32_w]
            rfl
           refine take_ (i := 6) (N := some 37) (v := ?_) (a' := ?_) #[true, true, true, true, true, true, true, false, true, true, false, false, true, true, false, false, true, true, true, false, false, false] rfl rfl (take_ofW HT_.out HW_.out (by kernel_rfl)) (fun _ _ _ h => h) (Or.inl ⟨by rfl, ?_⟩) hHeld ?_ ?_
           rotate_left
           ·rintro w' ⟨s0, s1, s2, s3⟩
            go_simp
            with_reducible rfl
           rotate_left
           ·simp only [Act.put, List.setIfInBounds_toArray, List.set_cons_zero, List.set_cons_succ, i64_w, i32_w]
            rfl
           refine pure_ (i := 7) (N := some 38) (v := ?_) (a' := ?_) #[true, true, true, true, true, true, true, true, true, true, false, false, true, true, false, false, true, true, true, false, false, false] rfl rfl (any_of HT_.out (by kernel_rfl)) (fun _ _ _ h => h) (Or.inl ⟨by rfl, ?_⟩) ?_ ?_
           rotate_left
           ·intro w'
            go_simp
            with_reducible rfl
           rotate_left
           ·simp only [Act.put, List.setIfInBounds_toArray, List.set_cons_zero, List.set_cons_succ, i64_w, i32_w]
            rfl
           refine take_ (i := 10) (N := some 41) (v := ?_) (a' := ?_) #[true, true, true, true, true, true, true, true, true, true, true, false, true, true, false, false, true, true, true, false, false, false] rfl rfl (take_ofW HT_.out HW_.out (by kernel_rfl)) (fun _ _ _ h => h) (Or.inl ⟨by rfl, ?_⟩) hHeld ?_ ?_
           rotate_left
           ·rintro w' ⟨s0, s1, s2, s3⟩
            go_simp
            with_reducible rfl
           rotate_left
           ·simp only [Act.put, List.setIfInBounds_toArray, List.set_cons_zero, List.set_cons_succ, i64_w, i32_w]
            rfl
           refine pure_ (i := 11) (N := some 42) (v := ?_) (a' := ?_) #[true, true, true, true, true, true, true, true, true, true, true, true, true, true, false, false, true, true, true, false, false, false] rfl rfl (any_of HT_.out (by kernel_rfl)) (fun _ _ _ h => h) (Or.inl ⟨by rfl, ?_⟩) ?_ ?_
           rotate_left
           ·intro w'
            go_simp
            with_reducible rfl
           rotate_left
           ·simp only [Act.put, List.setIfInBounds_toArray, List.set_cons_zero, List.set_cons_succ, i64_w, i32_w]
            rfl
           refine take_ (i := 14) (N := some 45) (v := ?_) (a' := ?_) #[true, true, true, true, true, true, true, true, true, true, true, true, true, true, true, false, true, true, true, false, false, false] rfl rfl (take_ofW HT_.out HW_.out (by kernel_rfl)) (fun _ _ _ h => h) (Or.inl ⟨by rfl, ?_⟩) hHeld ?_ ?_
           rotate_left
           ·rintro w' ⟨s0, s1, s2, s3⟩
            go_simp
            with_reducible rfl
           rotate_left
           ·simp only [Act.put, List.setIfInBounds_toArray, List.set_cons_zero, List.set_cons_succ, i64_w, i32_w]
            rfl
           refine pure_ (i := 15) (N := some 46) (v := ?_) (a' := ?_) #[true, true, true, true, true, true, true, true, true, true, true, true, true, true, true, true, true, true, true, false, false, false] rfl rfl (any_of HT_.out (by kernel_rfl)) (fun _ _ _ h => h) (Or.inl ⟨by rfl, ?_⟩) ?_ ?_
           rotate_left
           ·intro w'
            go_simp
            with_reducible rfl
           rotate_left
           ·simp only [Act.put, List.setIfInBounds_toArray, List.set_cons_zero, List.set_cons_succ, i64_w, i32_w]
            rfl
           refine pure_ (i := 19) (N := some 50) (v := ?_) (a' := ?_) #[true, true, true, true, true, true, true, true, true, true, true, true, true, true, true, true, true, true, true, true, false, false] rfl rfl (any_of HT_.out (by kernel_rfl)) (fun _ _ _ h => h) (Or.inl ⟨by rfl, ?_⟩) ?_ ?_
           rotate_left
           ·intro w'
            go_simp
            with_reducible rfl
           rotate_left
           ·simp only [Act.put, List.setIfInBounds_toArray, List.set_cons_zero, List.set_cons_succ, i64_w, i32_w]
            rfl
           refine one_ (i := 20) (N := some 4) #[true, true, true, true, true, true, true, true, true, true, true, true, true, true, true, true, true, true, true, true, true, false] rfl rfl (one_of HT_.out (by kernel_rfl)) (by decide) (fun K hK => ?_)
           refine box_step ?hg (N := 4) ?hd (cs := #[.int .i64 0, .int .i64 0, .int .i64 0, .int .i64 0, .int .i64 0]) (t := 41) ?hr ?_; (case hd => rfl); (case hg => rfl); (case hr => first | (go_simp; done) | (go_simp; rfl))
           intro gb162 hg w29 hbox hb
           have n0_ := Aside0.mk (blk_below (g := gb153) (o := .cells #[.bool false, .int .i64 0, .int .i64 0, .int .i64 0, .int .i64 0, .int .i64 0] 47 (0, 0)) (by exact BK153.out) hb)
           have n1_ := Aside0.mk (below_step (by repeat (first | (with_reducible first | exact HB.out | apply below_alloc | apply pw_below_drewN | apply below_drew1 | refine below_set ?_ GE153.out) | exact HB.out)) hb)
           have n2_ := Aside0.mk (hbox)
           have n3_ := Aside0.mk ((by rw [hg]; exact (below_size (by repeat (first | (with_reducible first | exact HB.out | apply below_alloc | apply pw_below_drewN | apply below_drew1 | refine below_set ?_ GE153.out) | exact HB.out))) : w.heap.size ≤ gb162))
           have n4_ := Aside0.mk ((by rw [hg]; exact (below_size (by repeat (first | (with_reducible first | exact HB.out | apply below_alloc | apply pw_below_drewN | apply below_drew1 | refine below_set ?_ GE153.out) | exact HB.out))) : w.heap.size ≤ gb162))
           have n5_ := Aside0.mk ((by rw [hg]; exact Nat.ne_of_lt (blk_lt (g := gb153) (o := .cells #[.bool false, .int .i64 0, .int .i64 0, .int .i64 0, .int .i64 0, .int .i64 0] 47 (0, 0)) (by exact BK153.out)) : gb153 ≠ gb162))
           have n6_ := Aside0.mk ((by rw [hg]; exact Nat.ne_of_gt (blk_lt (g := gb153) (o := .cells #[.bool false, .int .i64 0, .int .i64 0, .int .i64 0, .int .i64 0, .int .i64 0] 47 (0, 0)) (by exact BK153.out)) : gb162 ≠ gb153))
           clear BK153
           clear HB
           have BK153 := n0_
           have HB := n1_
           have BK162 := n2_
           have GW162 := n3_
           have GE162 := n4_
           have NB153_162 := n5_
           have NB162_153 := n6_
           clear n0_ n1_ n2_ n3_ n4_ n5_ n6_
           clear hb hbox hg
           refine hK.out _ _ ⟨((HB.out.cell (World.block_lt_of_cell? w _ hw158_0)).trans hw158_0), ((HB.out.cell (World.block_lt_of_cell? w _ hw159_0)).trans hw159_0), ((HB.out.cell (World.block_lt_of_cell? w _ hw160_0)).trans hw160_0), ((HB.out.cell (World.block_lt_of_cell? w _ hw161_0)).trans hw161_0)⟩ (fun hHeld => ?_)
           clear hK K
           refine norm_ (a' := ?_) ?_ ?_
           rotate_left
           ·show Act.put _ (some 4) _ = _
            simp only [Act.put, List.setIfInBounds_toArray, List.set_cons_zero, List.set_cons_succ, i64_w, i32_w]
            rfl
           refine one_ (i := 21) (N := none) #[true, true, true, true, true, true, true, true, true, true, true, true, true, true, true, true, true, true, true, true, true, true] rfl rfl (one_of HT_.out (by kernel_rfl)) (by decide) (fun K hK => ?_)
           have hs30 : w29.cell? ⟨gb162, 0, none⟩ = some (.int .i64 0) := (blk_cell BK162.out 0).trans rfl
           have hfs30 := blk_frozen BK162.out 0
           have hns30_0 := NB153_162.out
           have hms30_0 := NB162_153.out
           have hs31 : w29.cell? ⟨gb162, 1, none⟩ = some (.int .i64 0) := (blk_cell BK162.out 1).trans rfl
           have hfs31 := blk_frozen BK162.out 1
           have hns31_0 := NB153_162.out
           have hms31_0 := NB162_153.out
           have hs32 : w29.cell? ⟨gb162, 2, none⟩ = some (.int .i64 0) := (blk_cell BK162.out 2).trans rfl
           have hfs32 := blk_frozen BK162.out 2
           have hns32_0 := NB153_162.out
           have hms32_0 := NB162_153.out
           have hs33 : w29.cell? ⟨gb162, 3, none⟩ = some (.int .i64 0) := (blk_cell BK162.out 3).trans rfl
           have hfs33 := blk_frozen BK162.out 3
           have hns33_0 := NB153_162.out
           have hms33_0 := NB162_153.out
           have hs34 : w29.cell? ⟨gb162, 4, none⟩ = some (.int .i64 0) := (blk_cell BK162.out 4).trans rfl
           have hfs34 := blk_frozen BK162.out 4
           have hns34_0 := NB153_162.out
           have hms34_0 := NB162_153.out
           refine skip_ (w1 := ?_) (by rfl) rfl ?_ ?_
           rotate_left
           ·go_simp
            rfl
           refine hK.out _ _ ⟨((cell_far (p := ⟨gb162, _, none⟩) (by first | exact Nat.ne_of_lt (Nat.lt_of_lt_of_le (by have := World.block_lt_of_cell? _ _ hw158_0; first | rwa [add_block] at this | exact this) GW162.out) | (rw [add_block]; exact Nat.ne_of_lt (Nat.lt_of_lt_of_le (by have := World.block_lt_of_cell? _ _ hw158_0; first | rwa [add_block] at this | exact this) GW162.out)) | (show (Addr.add _ _).block ≠ _; rw [add_block]; exact Nat.ne_of_lt (Nat.lt_of_lt_of_le (by have := World.block_lt_of_cell? _ _ hw158_0; first | rwa [add_block] at this | exact this) GW162.out)) | (dsimp only; exact Nat.ne_of_lt (Nat.lt_of_lt_of_le (by have := World.block_lt_of_cell? _ _ hw158_0; first | rwa [add_block] at this | exact this) GW162.out))) _).trans (((cell_far (p := ⟨gb162, _, none⟩) (by first | exact Nat.ne_of_lt (Nat.lt_of_lt_of_le (by have := World.block_lt_of_cell? _ _ hw158_0; first | rwa [add_block] at this | exact this) GW162.out) | (rw [add_block]; exact Nat.ne_of_lt (Nat.lt_of_lt_of_le (by have := World.block_lt_of_cell? _ _ hw158_0; first | rwa [add_block] at this | exact this) GW162.out)) | (show (Addr.add _ _).block ≠ _; rw [add_block]; exact Nat.ne_of_lt (Nat.lt_of_lt_of_le (by have := World.block_lt_of_cell? _ _ hw158_0; first | rwa [add_block] at this | exact this) GW162.out)) | (dsimp only; exact Nat.ne_of_lt (Nat.lt_of_lt_of_le (by have := World.block_lt_of_cell? _ _ hw158_0; first | rwa [add_block] at this | exact this) GW162.out))) _).trans (((cell_far (p := ⟨gb162, _, none⟩) (by first | exact Nat.ne_of_lt (Nat.lt_of_lt_of_le (by have := World.block_lt_of_cell? _ _ hw158_0; first | rwa [add_block] at this | exact this) GW162.out) | (rw [add_block]; exact Nat.ne_of_lt (Nat.lt_of_lt_of_le (by have := World.block_lt_of_cell? _ _ hw158_0; first | rwa [add_block] at this | exact this) GW162.out)) | (show (Addr.add _ _).block ≠ _; rw [add_block]; exact Nat.ne_of_lt (Nat.lt_of_lt_of_le (by have := World.block_lt_of_cell? _ _ hw158_0; first | rwa [add_block] at this | exact this) GW162.out)) | (dsimp only; exact Nat.ne_of_lt (Nat.lt_of_lt_of_le (by have := World.block_lt_of_cell? _ _ hw158_0; first | rwa [add_block] at this | exact this) GW162.out))) _).trans (((cell_far (p := ⟨gb162, _, none⟩) (by first | exact Nat.ne_of_lt (Nat.lt_of_lt_of_le (by have := World.block_lt_of_cell? _ _ hw158_0; first | rwa [add_block] at this | exact this) GW162.out) | (rw [add_block]; exact Nat.ne_of_lt (Nat.lt_of_lt_of_le (by have := World.block_lt_of_cell? _ _ hw158_0; first | rwa [add_block] at this | exact this) GW162.out)) | (show (Addr.add _ _).block ≠ _; rw [add_block]; exact Nat.ne_of_lt (Nat.lt_of_lt_of_le (by have := World.block_lt_of_cell? _ _ hw158_0; first | rwa [add_block] at this | exact this) GW162.out)) | (dsimp only; exact Nat.ne_of_lt (Nat.lt_of_lt_of_le (by have := World.block_lt_of_cell? _ _ hw158_0; first | rwa [add_block] at this | exact this) GW162.out))) _).trans (((cell_far (p := ⟨gb162, _, none⟩) (by first | exact Nat.ne_of_lt (Nat.lt_of_lt_of_le (by have := World.block_lt_of_cell? _ _ hw158_0; first | rwa [add_block] at this | exact this) GW162.out) | (rw [add_block]; exact Nat.ne_of_lt (Nat.lt_of_lt_of_le (by have := World.block_lt_of_cell? _ _ hw158_0; first | rwa [add_block] at this | exact this) GW162.out)) | (show (Addr.add _ _).block ≠ _; rw [add_block]; exact Nat.ne_of_lt (Nat.lt_of_lt_of_le (by have := World.block_lt_of_cell? _ _ hw158_0; first | rwa [add_block] at this | exact this) GW162.out)) | (dsimp only; exact Nat.ne_of_lt (Nat.lt_of_lt_of_le (by have := World.block_lt_of_cell? _ _ hw158_0; first | rwa [add_block] at this | exact this) GW162.out))) _).trans (hHeld.1)))))))))), ((cell_far (p := ⟨gb162, _, none⟩) (by first | exact Nat.ne_of_lt (Nat.lt_of_lt_of_le (by have := World.block_lt_of_cell? _ _ hw159_0; first | rwa [add_block] at this | exact this) GW162.out) | (rw [add_block]; exact Nat.ne_of_lt (Nat.lt_of_lt_of_le (by have := World.block_lt_of_cell? _ _ hw159_0; first | rwa [add_block] at this | exact this) GW162.out)) | (show (Addr.add _ _).block ≠ _; rw [add_block]; exact Nat.ne_of_lt (Nat.lt_of_lt_of_le (by have := World.block_lt_of_cell? _ _ hw159_0; first | rwa [add_block] at this | exact this) GW162.out)) | (dsimp only; exact Nat.ne_of_lt (Nat.lt_of_lt_of_le (by have := World.block_lt_of_cell? _ _ hw159_0; first | rwa [add_block] at this | exact this) GW162.out))) _).trans (((cell_far (p := ⟨gb162, _, none⟩) (by first | exact Nat.ne_of_lt (Nat.lt_of_lt_of_le (by have := World.block_lt_of_cell? _ _ hw159_0; first | rwa [add_block] at this | exact this) GW162.out) | (rw [add_block]; exact Nat.ne_of_lt (Nat.lt_of_lt_of_le (by have := World.block_lt_of_cell? _ _ hw159_0; first | rwa [add_block] at this | exact this) GW162.out)) | (show (Addr.add _ _).block ≠ _; rw [add_block]; exact Nat.ne_of_lt (Nat.lt_of_lt_of_le (by have := World.block_lt_of_cell? _ _ hw159_0; first | rwa [add_block] at this | exact this) GW162.out)) | (dsimp only; exact Nat.ne_of_lt (Nat.lt_of_lt_of_le (by have := World.block_lt_of_cell? _ _ hw159_0; first | rwa [add_block] at this | exact this) GW162.out))) _).trans (((cell_far (p := ⟨gb162, _, none⟩) (by first | exact Nat.ne_of_lt (Nat.lt_of_lt_of_le (by have := World.block_lt_of_cell? _ _ hw159_0; first | rwa [add_block] at this | exact this) GW162.out) | (rw [add_block]; exact Nat.ne_of_lt (Nat.lt_of_lt_of_le (by have := World.block_lt_of_cell? _ _ hw159_0; first | rwa [add_block] at this | exact this) GW162.out)) | (show (Addr.add _ _).block ≠ _; rw [add_block]; exact Nat.ne_of_lt (Nat.lt_of_lt_of_le (by have := World.block_lt_of_cell? _ _ hw159_0; first | rwa [add_block] at this | exact this) GW162.out)) | (dsimp only; exact Nat.ne_of_lt (Nat.lt_of_lt_of_le (by have := World.block_lt_of_cell? _ _ hw159_0; first | rwa [add_block] at this | exact this) GW162.out))) _).trans (((cell_far (p := ⟨gb162, _, none⟩) (by first | exact Nat.ne_of_lt (Nat.lt_of_lt_of_le (by have := World.block_lt_of_cell? _ _ hw159_0; first | rwa [add_block] at this | exact this) GW162.out) | (rw [add_block]; exact Nat.ne_of_lt (Nat.lt_of_lt_of_le (by have := World.block_lt_of_cell? _ _ hw159_0; first | rwa [add_block] at this | exact this) GW162.out)) | (show (Addr.add _ _).block ≠ _; rw [add_block]; exact Nat.ne_of_lt (Nat.lt_of_lt_of_le (by have := World.block_lt_of_cell? _ _ hw159_0; first | rwa [add_block] at this | exact this) GW162.out)) | (dsimp only; exact Nat.ne_of_lt (Nat.lt_of_lt_of_le (by have := World.block_lt_of_cell? _ _ hw159_0; first | rwa [add_block] at this | exact this) GW162.out))) _).trans (((cell_far (p := ⟨gb162, _, none⟩) (by first | exact Nat.ne_of_lt (Nat.lt_of_lt_of_le (by have := World.block_lt_of_cell? _ _ hw159_0; first | rwa [add_block] at this | exact this) GW162.out) | (rw [add_block]; exact Nat.ne_of_lt (Nat.lt_of_lt_of_le (by have := World.block_lt_of_cell? _ _ hw159_0; first | rwa [add_block] at this | exact this) GW162.out)) | (show (Addr.add _ _).block ≠ _; rw [add_block]; exact Nat.ne_of_lt (Nat.lt_of_lt_of_le (by have := World.block_lt_of_cell? _ _ hw159_0; first | rwa [add_block] at this | exact this) GW162.out)) | (dsimp only; exact Nat.ne_of_lt (Nat.lt_of_lt_of_le (by have := World.block_lt_of_cell? _ _ hw159_0; first | rwa [add_block] at this | exact this) GW162.out))) _).trans (hHeld.2.1)))))))))), ((cell_far (p := ⟨gb162, _, none⟩) (by first | exact Nat.ne_of_lt (Nat.lt_of_lt_of_le (by have := World.block_lt_of_cell? _ _ hw160_0; first | rwa [add_block] at this | exact this) GW162.out) | (rw [add_block]; exact Nat.ne_of_lt (Nat.lt_of_lt_of_le (by have := World.block_lt_of_cell? _ _ hw160_0; first | rwa [add_block] at this | exact this) GW162.out)) | (show (Addr.add _ _).block ≠ _; rw [add_block]; exact Nat.ne_of_lt (Nat.lt_of_lt_of_le (by have := World.block_lt_of_cell? _ _ hw160_0; first | rwa [add_block] at this | exact this) GW162.out)) | (dsimp only; exact Nat.ne_of_lt (Nat.lt_of_lt_of_le (by have := World.block_lt_of_cell? _ _ hw160_0; first | rwa [add_block] at this | exact this) GW162.out))) _).trans (((cell_far (p := ⟨gb162, _, none⟩) (by first | exact Nat.ne_of_lt (Nat.lt_of_lt_of_le (by have := World.block_lt_of_cell? _ _ hw160_0; first | rwa [add_block] at this | exact this) GW162.out) | (rw [add_block]; exact Nat.ne_of_lt (Nat.lt_of_lt_of_le (by have := World.block_lt_of_cell? _ _ hw160_0; first | rwa [add_block] at this | exact this) GW162.out)) | (show (Addr.add _ _).block ≠ _; rw [add_block]; exact Nat.ne_of_lt (Nat.lt_of_lt_of_le (by have := World.block_lt_of_cell? _ _ hw160_0; first | rwa [add_block] at this | exact this) GW162.out)) | (dsimp only; exact Nat.ne_of_lt (Nat.lt_of_lt_of_le (by have := World.block_lt_of_cell? _ _ hw160_0; first | rwa [add_block] at this | exact this) GW162.out))) _).trans (((cell_far (p := ⟨gb162, _, none⟩) (by first | exact Nat.ne_of_lt (Nat.lt_of_lt_of_le (by have := World.block_lt_of_cell? _ _ hw160_0; first | rwa [add_block] at this | exact this) GW162.out) | (rw [add_block]; exact Nat.ne_of_lt (Nat.lt_of_lt_of_le (by have := World.block_lt_of_cell? _ _ hw160_0; first | rwa [add_block] at this | exact this) GW162.out)) | (show (Addr.add _ _).block ≠ _; rw [add_block]; exact Nat.ne_of_lt (Nat.lt_of_lt_of_le (by have := World.block_lt_of_cell? _ _ hw160_0; first | rwa [add_block] at this | exact this) GW162.out)) | (dsimp only; exact Nat.ne_of_lt (Nat.lt_of_lt_of_le (by have := World.block_lt_of_cell? _ _ hw160_0; first | rwa [add_block] at this | exact this) GW162.out))) _).trans (((cell_far (p := ⟨gb162, _, none⟩) (by first | exact Nat.ne_of_lt (Nat.lt_of_lt_of_le (by have := World.block_lt_of_cell? _ _ hw160_0; first | rwa [add_block] at this | exact this) GW162.out) | (rw [add_block]; exact Nat.ne_of_lt (Nat.lt_of_lt_of_le (by have := World.block_lt_of_cell? _ _ hw160_0; first | rwa [add_block] at this | exact this) GW162.out)) | (show (Addr.add _ _).block ≠ _; rw [add_block]; exact Nat.ne_of_lt (Nat.lt_of_lt_of_le (by have := World.block_lt_of_cell? _ _ hw160_0; first | rwa [add_block] at this | exact this) GW162.out)) | (dsimp only; exact Nat.ne_of_lt (Nat.lt_of_lt_of_le (by have := World.block_lt_of_cell? _ _ hw160_0; first | rwa [add_block] at this | exact this) GW162.out))) _).trans (((cell_far (p := ⟨gb162, _, none⟩) (by first | exact Nat.ne_of_lt (Nat.lt_of_lt_of_le (by have := World.block_lt_of_cell? _ _ hw160_0; first | rwa [add_block] at this | exact this) GW162.out) | (rw [add_block]; exact Nat.ne_of_lt (Nat.lt_of_lt_of_le (by have := World.block_lt_of_cell? _ _ hw160_0; first | rwa [add_block] at this | exact this) GW162.out)) | (show (Addr.add _ _).block ≠ _; rw [add_block]; exact Nat.ne_of_lt (Nat.lt_of_lt_of_le (by have := World.block_lt_of_cell? _ _ hw160_0; first | rwa [add_block] at this | exact this) GW162.out)) | (dsimp only; exact Nat.ne_of_lt (Nat.lt_of_lt_of_le (by have := World.block_lt_of_cell? _ _ hw160_0; first | rwa [add_block] at this | exact this) GW162.out))) _).trans (hHeld.2.2.1)))))))))), ((cell_far (p := ⟨gb162, _, none⟩) (by first | exact Nat.ne_of_lt (Nat.lt_of_lt_of_le (by have := World.block_lt_of_cell? _ _ hw161_0; first | rwa [add_block] at this | exact this) GW162.out) | (rw [add_block]; exact Nat.ne_of_lt (Nat.lt_of_lt_of_le (by have := World.block_lt_of_cell? _ _ hw161_0; first | rwa [add_block] at this | exact this) GW162.out)) | (show (Addr.add _ _).block ≠ _; rw [add_block]; exact Nat.ne_of_lt (Nat.lt_of_lt_of_le (by have := World.block_lt_of_cell? _ _ hw161_0; first | rwa [add_block] at this | exact this) GW162.out)) | (dsimp only; exact Nat.ne_of_lt (Nat.lt_of_lt_of_le (by have := World.block_lt_of_cell? _ _ hw161_0; first | rwa [add_block] at this | exact this) GW162.out))) _).trans (((cell_far (p := ⟨gb162, _, none⟩) (by first | exact Nat.ne_of_lt (Nat.lt_of_lt_of_le (by have := World.block_lt_of_cell? _ _ hw161_0; first | rwa [add_block] at this | exact this) GW162.out) | (rw [add_block]; exact Nat.ne_of_lt (Nat.lt_of_lt_of_le (by have := World.block_lt_of_cell? _ _ hw161_0; first | rwa [add_block] at this | exact this) GW162.out)) | (show (Addr.add _ _).block ≠ _; rw [add_block]; exact Nat.ne_of_lt (Nat.lt_of_lt_of_le (by have := World.block_lt_of_cell? _ _ hw161_0; first | rwa [add_block] at this | exact this) GW162.out)) | (dsimp only; exact Nat.ne_of_lt (Nat.lt_of_lt_of_le (by have := World.block_lt_of_cell? _ _ hw161_0; first | rwa [add_block] at this | exact this) GW162.out))) _).trans (((cell_far (p := ⟨gb162, _, none⟩) (by first | exact Nat.ne_of_lt (Nat.lt_of_lt_of_le (by have := World.block_lt_of_cell? _ _ hw161_0; first | rwa [add_block] at this | exact this) GW162.out) | (rw [add_block]; exact Nat.ne_of_lt (Nat.lt_of_lt_of_le (by have := World.block_lt_of_cell? _ _ hw161_0; first | rwa [add_block] at this | exact this) GW162.out)) | (show (Addr.add _ _).block ≠ _; rw [add_block]; exact Nat.ne_of_lt (Nat.lt_of_lt_of_le (by have := World.block_lt_of_cell? _ _ hw161_0; first | rwa [add_block] at this | exact this) GW162.out)) | (dsimp only; exact Nat.ne_of_lt (Nat.lt_of_lt_of_le (by have := World.block_lt_of_cell? _ _ hw161_0; first | rwa [add_block] at this | exact this) GW162.out))) _).trans (((cell_far (p := ⟨gb162, _, none⟩) (by first | exact Nat.ne_of_lt (Nat.lt_of_lt_of_le (by have := World.block_lt_of_cell? _ _ hw161_0; first | rwa [add_block] at this | exact this) GW162.out) | (rw [add_block]; exact Nat.ne_of_lt (Nat.lt_of_lt_of_le (by have := World.block_lt_of_cell? _ _ hw161_0; first | rwa [add_block] at this | exact this) GW162.out)) | (show (Addr.add _ _).block ≠ _; rw [add_block]; exact Nat.ne_of_lt (Nat.lt_of_lt_of_le (by have := World.block_lt_of_cell? _ _ hw161_0; first | rwa [add_block] at this | exact this) GW162.out)) | (dsimp only; exact Nat.ne_of_lt (Nat.lt_of_lt_of_le (by have := World.block_lt_of_cell? _ _ hw161_0; first | rwa [add_block] at this | exact this) GW162.out))) _).trans (((cell_far (p := ⟨gb162, _, none⟩) (by first | exact Nat.ne_of_lt (Nat.lt_of_lt_of_le (by have := World.block_lt_of_cell? _ _ hw161_0; first | rwa [add_block] at this | exact this) GW162.out) | (rw [add_block]; exact Nat.ne_of_lt (Nat.lt_of_lt_of_le (by have := World.block_lt_of_cell? _ _ hw161_0; first | rwa [add_block] at this | exact this) GW162.out)) | (show (Addr.add _ _).block ≠ _; rw [add_block]; exact Nat.ne_of_lt (Nat.lt_of_lt_of_le (by have := World.block_lt_of_cell? _ _ hw161_0; first | rwa [add_block] at this | exact this) GW162.out)) | (dsimp only; exact Nat.ne_of_lt (Nat.lt_of_lt_of_le (by have := World.block_lt_of_cell? _ _ hw161_0; first | rwa [add_block] at this | exact this) GW162.out))) _).trans (hHeld.2.2.2))))))))))⟩ (fun hHeld => ?_)
           clear hK K
           refine done_ (done_of HT_.out (by kernel_rfl)) ?_
           have hnb35 := NB162_153.out
           have hnc35 := NB153_162.out
           have hcz36_0 : w29.cell? ⟨gb162, 0, none⟩ = some (.int .i64 0) := (blk_cell BK162.out 0).trans rfl
           have hcz36_1 : w29.cell? ⟨gb162, 1, none⟩ = some (.int .i64 0) := (blk_cell BK162.out 1).trans rfl
           have hcz36_2 : w29.cell? ⟨gb162, 2, none⟩ = some (.int .i64 0) := (blk_cell BK162.out 2).trans rfl
           have hcz36_3 : w29.cell? ⟨gb162, 3, none⟩ = some (.int .i64 0) := (blk_cell BK162.out 3).trans rfl
           have hcz36_4 : w29.cell? ⟨gb162, 4, none⟩ = some (.int .i64 0) := (blk_cell BK162.out 4).trans rfl
           have hfz36_0 := blk_frozen BK162.out 0
           have hfz36_1 := blk_frozen BK162.out 1
           have hfz36_2 := blk_frozen BK162.out 2
           have hfz36_3 := blk_frozen BK162.out 3
           have hfz36_4 := blk_frozen BK162.out 4
           try go_wp2_with (first | ((with_reducible refine gate_callee (f := 33) rfl ?_); refine goesL_ (some 52) rfl rfl Try.func33 (by kernel_rfl) rfl #[.agg #[.int .i64 (wrap64 (rd l0 0)), .int .i64 (wrap64 (rd l0 1)), .int .i64 (wrap64 (rd l0 2)), .int .i64 (wrap64 (rd l0 3)), .int .i64 (wrap64 (wrap32 (Go.bits .or .u32 (Go.bits .or .u32 (Go.bits .or .u32 ((rd l0 4) % 4294967296) ((((rd l0 5) % 4294967296) * 256) % 4294967296)) ((((rd l0 6) % 4294967296) * 65536) % 4294967296)) ((((rd l0 7) % 4294967296) * 16777216) % 4294967296))))]] rfl (by (try simp only [List.map_toArray, List.map_cons, List.map_nil]); first | done | rfl | (simp only [List.length_drop, List.length_take]; rfl)) ?_; (with_reducible refine (impl_InsFault.calls k (wrap64 (rd l0 0)) (wrap64 (rd l0 1)) (wrap64 (rd l0 2)) (wrap64 (rd l0 3)) (wrap64 (wrap32 (Go.bits .or .u32 (Go.bits .or .u32 (Go.bits .or .u32 ((rd l0 4) % 4294967296) ((((rd l0 5) % 4294967296) * 256) % 4294967296)) ((((rd l0 6) % 4294967296) * 65536) % 4294967296)) ((((rd l0 7) % 4294967296) * 16777216) % 4294967296)))) false _ A11.out).mono ?_); rintro e w37 ⟨rfl, hb⟩; refine ⟨_, rfl, ?_⟩; have n0_ := Aside0.mk (blk_below (g := gb153) (o := .cells #[.bool false, .int .i64 0, .int .i64 0, .int .i64 0, .int .i64 0, .int .i64 0] 47 (0, 0)) (by refine blk_far ?_ NB153_162.out _; refine blk_far ?_ NB153_162.out _; refine blk_far ?_ NB153_162.out _; refine blk_far ?_ NB153_162.out _; refine blk_far ?_ NB153_162.out _; exact BK153.out) hb); have n1_ := Aside0.mk (blk_below (g := gb162) (o := .cells #[.int .i64 (wrap64 (rd l0 0)), .int .i64 (wrap64 (rd l0 1)), .int .i64 (wrap64 (rd l0 2)), .int .i64 (wrap64 (rd l0 3)), .int .i64 (wrap64 (wrap32 (Go.bits .or .u32 (Go.bits .or .u32 (Go.bits .or .u32 ((rd l0 4) % 4294967296) ((((rd l0 5) % 4294967296) * 256) % 4294967296)) ((((rd l0 6) % 4294967296) * 65536) % 4294967296)) ((((rd l0 7) % 4294967296) * 16777216) % 4294967296))))] 41 (0, 0)) (by refine blk_put (cs := #[.int .i64 (wrap64 (rd l0 0)), .int .i64 (wrap64 (rd l0 1)), .int .i64 (wrap64 (rd l0 2)), .int .i64 (wrap64 (rd l0 3)), .int .i64 0]) ?_ 4 _ rfl; refine blk_put (cs := #[.int .i64 (wrap64 (rd l0 0)), .int .i64 (wrap64 (rd l0 1)), .int .i64 (wrap64 (rd l0 2)), .int .i64 0, .int .i64 0]) ?_ 3 _ rfl; refine blk_put (cs := #[.int .i64 (wrap64 (rd l0 0)), .int .i64 (wrap64 (rd l0 1)), .int .i64 0, .int .i64 0, .int .i64 0]) ?_ 2 _ rfl; refine blk_put (cs := #[.int .i64 (wrap64 (rd l0 0)), .int .i64 0, .int .i64 0, .int .i64 0, .int .i64 0]) ?_ 1 _ rfl; refine blk_put (cs := #[.int .i64 0, .int .i64 0, .int .i64 0, .int .i64 0, .int .i64 0]) ?_ 0 _ rfl; exact BK162.out) hb); have n2_ := Aside0.mk (below_step (by repeat (first | (with_reducible first | exact HB.out | apply below_alloc | apply pw_below_drewN | apply below_drew1 | refine below_set ?_ GE153.out | refine below_set ?_ GE162.out) | exact HB.out)) hb); clear BK153; clear BK162; clear HB; have BK153 := n0_; have BK162 := n1_; have HB := n2_; clear n0_ n1_ n2_; (try clear hb); (try clear hb2); (try clear hk); (try clear hi); have hcz38_0 : w37.cell? ⟨gb162, 0, none⟩ = some (.int .i64 (wrap64 (rd l0 0))) := (blk_cell BK162.out 0).trans rfl; have hcz38_1 : w37.cell? ⟨gb162, 1, none⟩ = some (.int .i64 (wrap64 (rd l0 1))) := (blk_cell BK162.out 1).trans rfl; have hcz38_2 : w37.cell? ⟨gb162, 2, none⟩ = some (.int .i64 (wrap64 (rd l0 2))) := (blk_cell BK162.out 2).trans rfl; have hcz38_3 : w37.cell? ⟨gb162, 3, none⟩ = some (.int .i64 (wrap64 (rd l0 3))) := (blk_cell BK162.out 3).trans rfl; have hcz38_4 : w37.cell? ⟨gb162, 4, none⟩ = some (.int .i64 (wrap64 (wrap32 (Go.bits .or .u32 (Go.bits .or .u32 (Go.bits .or .u32 ((rd l0 4) % 4294967296) ((((rd l0 5) % 4294967296) * 256) % 4294967296)) ((((rd l0 6) % 4294967296) * 65536) % 4294967296)) ((((rd l0 7) % 4294967296) * 16777216) % 4294967296))))) := (blk_cell BK162.out 4).trans rfl; have hfz38_0 := blk_frozen BK162.out 0; have hfz38_1 := blk_frozen BK162.out 1; have hfz38_2 := blk_frozen BK162.out 2; have hfz38_3 := blk_frozen BK162.out 3; have hfz38_4 := blk_frozen BK162.out 4; have hcz39_0 : w37.cell? ⟨gb153, 0, none⟩ = some (.bool false) := (blk_cell BK153.out 0).trans rfl; have hcz39_1 : w37.cell? ⟨gb153, 1, none⟩ = some (.int .i64 0) := (blk_cell BK153.out 1).trans rfl; have hcz39_2 : w37.cell? ⟨gb153, 2, none⟩ = some (.int .i64 0) := (blk_cell BK153.out 2).trans rfl; have hcz39_3 : w37.cell? ⟨gb153, 3, none⟩ = some (.int .i64 0) := (blk_cell BK153.out 3).trans rfl; have hcz39_4 : w37.cell? ⟨gb153, 4, none⟩ = some (.int .i64 0) := (blk_cell BK153.out 4).trans rfl; have hcz39_5 : w37.cell? ⟨gb153, 5, none⟩ = some (.int .i64 0) := (blk_cell BK153.out 5).trans rfl; have hfz39_0 := blk_frozen BK153.out 0; have hfz39_1 := blk_frozen BK153.out 1; have hfz39_2 := blk_frozen BK153.out 2; have hfz39_3 := blk_frozen BK153.out 3; have hfz39_4 := blk_frozen BK153.out 4; have hfz39_5 := blk_frozen BK153.out 5))
           refine bodyPost_ret (results_cell_row rfl _ _ gb153 47 #[.bool true, .int .i64 (wrap64 (rd l0 0)), .int .i64 (wrap64 (rd l0 1)), .int .i64 (wrap64 (rd l0 2)), .int .i64 (wrap64 (rd l0 3)), .int .i64 (wrap64 (wrap32 (Go.bits .or .u32 (Go.bits .or .u32 (Go.bits .or .u32 ((rd l0 4) % 4294967296) ((((rd l0 5) % 4294967296) * 256) % 4294967296)) ((((rd l0 6) % 4294967296) * 65536) % 4294967296)) ((((rd l0 7) % 4294967296) * 16777216) % 4294967296))))] (0, 0) _ rfl (by refine blk_put (cs := #[.bool true, .int .i64 (wrap64 (rd l0 0)), .int .i64 (wrap64 (rd l0 1)), .int .i64 (wrap64 (rd l0 2)), .int .i64 (wrap64 (rd l0 3)), .int .i64 0]) ?_ 5 _ rfl; refine blk_put (cs := #[.bool true, .int .i64 (wrap64 (rd l0 0)), .int .i64 (wrap64 (rd l0 1)), .int .i64 (wrap64 (rd l0 2)), .int .i64 0, .int .i64 0]) ?_ 4 _ rfl; refine blk_put (cs := #[.bool true, .int .i64 (wrap64 (rd l0 0)), .int .i64 (wrap64 (rd l0 1)), .int .i64 0, .int .i64 0, .int .i64 0]) ?_ 3 _ rfl; refine blk_put (cs := #[.bool true, .int .i64 (wrap64 (rd l0 0)), .int .i64 0, .int .i64 0, .int .i64 0, .int .i64 0]) ?_ 2 _ rfl; refine blk_put (cs := #[.bool true, .int .i64 0, .int .i64 0, .int .i64 0, .int .i64 0, .int .i64 0]) ?_ 1 _ rfl; refine blk_put (cs := #[.bool false, .int .i64 0, .int .i64 0, .int .i64 0, .int .i64 0, .int .i64 0]) ?_ 0 _ rfl; exact BK153.out) Try.underlying47 rfl (by kernel_rfl)) rfl ?_
           exact ⟨by first | rfl | (simp [*] <;> rfl), by repeat (first | (with_reducible first | exact HB.out | apply below_alloc | apply pw_below_drewN | apply below_drew1 | refine below_set ?_ GE153.out | refine below_set ?_ GE162.out) | exact HB.out)⟩
         ·rw [if_neg c10] at H
          exact absurd H (by simp)
        ·rw [if_neg c9] at H
         exact absurd H (by simp)
       ·rw [if_neg c8] at H
        exact absurd H (by simp)
      ·rw [if_neg c7] at H
       exact absurd H (by simp)
     ·rw [if_neg c6] at H
      exact absurd H (by simp)
    ·rw [if_neg c5] at H
     exact absurd H (by simp)
   ·rw [if_neg c4] at H
    exact absurd H (by simp)
  ·rw [if_neg c3] at H
   exact absurd H (by simp)
 ·rw [if_neg c2] at H
  have c2b0 : ((l0.length : Int) == 8) = false := beq_eq_false_iff_ne.mpr c2
  have c2b1 : ((l0.length : Int) != 8) = true := bne_iff_ne.mpr c2
  simp only [Option.some.injEq, Prod.mk.injEq] at H
  obtain ⟨rfl, rfl, rfl, rfl, rfl, rfl⟩ := H
  go_enter Try.func30, Try.ntmps30
  go_wp2_with (first | ((with_reducible refine gate_dst (N := 2) rfl ?_); refine box_event ?hg (N := 2) ?hd (cs := #[.bool false, .int .i64 0, .int .i64 0, .int .i64 0, .int .i64 0, .int .i64 0]) (t := 47) ?hr ?_; (case hd => rfl); (case hg => rfl); (case hr => first | (go_simp; done) | (go_simp; rfl)); intro gb153 hg w40 hbox hb; have n0_ := Aside0.mk (below_step (by repeat (first | (with_reducible first | exact HB.out | apply below_alloc | apply pw_below_drewN | apply below_drew1) | exact HB.out)) hb); have n1_ := Aside0.mk (hbox); have n2_ := Aside0.mk ((by rw [hg]; exact (below_size (by repeat (first | (with_reducible first | exact HB.out | apply below_alloc | apply pw_below_drewN | apply below_drew1) | exact HB.out))) : w.heap.size ≤ gb153)); have n3_ := Aside0.mk ((by rw [hg]; exact (below_size (by repeat (first | (with_reducible first | exact HB.out | apply below_alloc | apply pw_below_drewN | apply below_drew1) | exact HB.out))) : w.heap.size ≤ gb153)); clear HB; have HB := n0_; have BK153 := n1_; have GW153 := n2_; have GE153 := n3_; clear n0_ n1_ n2_ n3_; clear hb hbox hg; have hcz41_0 : w40.cell? ⟨gb153, 0, none⟩ = some (.bool false) := (blk_cell BK153.out 0).trans rfl; have hcz41_1 : w40.cell? ⟨gb153, 1, none⟩ = some (.int .i64 0) := (blk_cell BK153.out 1).trans rfl; have hcz41_2 : w40.cell? ⟨gb153, 2, none⟩ = some (.int .i64 0) := (blk_cell BK153.out 2).trans rfl; have hcz41_3 : w40.cell? ⟨gb153, 3, none⟩ = some (.int .i64 0) := (blk_cell BK153.out 3).trans rfl; have hcz41_4 : w40.cell? ⟨gb153, 4, none⟩ = some (.int .i64 0) := (blk_cell BK153.out 4).trans rfl; have hcz41_5 : w40.cell? ⟨gb153, 5, none⟩ = some (.int .i64 0) := (blk_cell BK153.out 5).trans rfl; have hfz41_0 := blk_frozen BK153.out 0; have hfz41_1 := blk_frozen BK153.out 1; have hfz41_2 := blk_frozen BK153.out 2; have hfz41_3 := blk_frozen BK153.out 3; have hfz41_4 := blk_frozen BK153.out 4; have hfz41_5 := blk_frozen BK153.out 5))
  refine bodyPost_ret (results_cell_row rfl _ _ gb153 47 #[.bool false, .int .i64 0, .int .i64 0, .int .i64 0, .int .i64 0, .int .i64 0] (0, 0) _ rfl (by refine blk_put (cs := #[.bool false, .int .i64 0, .int .i64 0, .int .i64 0, .int .i64 0, .int .i64 0]) ?_ 5 _ rfl; refine blk_put (cs := #[.bool false, .int .i64 0, .int .i64 0, .int .i64 0, .int .i64 0, .int .i64 0]) ?_ 4 _ rfl; refine blk_put (cs := #[.bool false, .int .i64 0, .int .i64 0, .int .i64 0, .int .i64 0, .int .i64 0]) ?_ 3 _ rfl; refine blk_put (cs := #[.bool false, .int .i64 0, .int .i64 0, .int .i64 0, .int .i64 0, .int .i64 0]) ?_ 2 _ rfl; refine blk_put (cs := #[.bool false, .int .i64 0, .int .i64 0, .int .i64 0, .int .i64 0, .int .i64 0]) ?_ 1 _ rfl; refine blk_put (cs := #[.bool false, .int .i64 0, .int .i64 0, .int .i64 0, .int .i64 0, .int .i64 0]) ?_ 0 _ rfl; exact BK153.out) Try.underlying47 rfl (by kernel_rfl)) rfl ?_
  exact ⟨by first | rfl | (simp [*] <;> rfl), by repeat (first | (with_reducible first | exact HB.out | apply below_alloc | apply pw_below_drewN | apply below_drew1 | refine below_set ?_ GE153.out) | exact HB.out)⟩

end Go.Proofs.Ytcjdgimiobhhnaa.QFnIns
