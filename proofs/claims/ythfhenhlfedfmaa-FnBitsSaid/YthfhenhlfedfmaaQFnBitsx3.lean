-- written by mp.py, a program of this session, over the translation; Lean checks it
import Derived.Test.YthfhenhlfedfmaaQFnBitsx0
import Derived.Test.YthfhenhlfedfmaaQFnBitsx1
import Derived.Test.YthfhenhlfedfmaaQFnBitsx2
namespace Go.Proofs.Ythfhenhlfedfmaa.QFnBits
open Go.RowKit Go.Proofs.YthfhenhlfedfmaaW.PrintWords Go.Proofs.YthfhenhlfedfmaaW.PrintLast Go.Proofs.YthfhenhlfedfmaaW.PrintMore
attribute [local go_sem] max2_int min2_int max_two min_two max_three min_three max_four min_four   -- for this text's walks alone
set_option linter.unusedVariables false
set_option linter.unusedSimpArgs false

/-! ### impl_PutVar: function 59, by hand -/
def impl_PutVar.f (k : Nat) (l0_0 : List Int) (a0_1 : Int) (a1 : Int) (a2 : Int) : Option (List Int × Int) := (impl_right.f k l0_0 a0_1).bind fun t => if a2 ≥ 2 then (if a2 ≤ 32 then impl_Bits_putVar.f k t.1 t.2 a1 a2 else some t) else some t
theorem impl_PutVar.mono : ∀ a0 a1 a2 a3 k, LeO (impl_PutVar.f k a0 a1 a2 a3) (impl_PutVar.f (k + 1) a0 a1 a2 a3) := by
  intro a0 a1 a2 a3 k
  unfold impl_PutVar.f
  refine LeO.bind (impl_right.mono _ _ _) (fun _ => LeO.ite (LeO.ite (impl_Bits_putVar.mono _ _ _ _ _) (LeO.refl _)) (LeO.refl _))
set_option maxHeartbeats 8000000 in
set_option maxRecDepth 100000 in
theorem impl_PutVar.calls (k : Nat) (A0_0 : Option Addr) (c0_0 : Nat) (l0_0 : List Int) (a0_1 : Int) (a1 : Int) (a2 : Int) (r1 : List Int) (r2 : Int) (w : World) (hr0_0 : Kd.C (Kd.int .u8) w A0_0 l0_0.length l0_0) (hc0_0 : l0_0.length ≤ c0_0) (h : impl_PutVar.f k l0_0 a0_1 a1 a2 = some (r1, r2)) :
    Calls Try.prog 59 #[.agg #[.slice A0_0 l0_0.length c0_0, .int .i64 a0_1], .int .u64 a1, .int .i64 a2] w fun e w' => ∃ v0_ : Value, e = .returned (.agg #[v0_, .int .i64 r2]) ∧ Kd.R (Kd.int .u8) 5 w' w.heap.size (fun _ => True) v0_ r1 ∧ Below w.heap.size w w' := by
  have hu64 := Try.underlying64
  have HR := Aside0.mk hr0_0
  have HC := Aside0.mk hc0_0
  clear hr0_0 hc0_0
  have HB := Aside0.mk (Below.refl w.heap.size w)
  have H : ((impl_right.f k l0_0 a0_1).bind fun t => if a2 ≥ 2 then (if a2 ≤ 32 then impl_Bits_putVar.f k t.1 t.2 a1 a2 else some t) else some t) = some (r1, r2) := h
  clear h
  obtain ⟨⟨t1, t2⟩, A70, H⟩ := Option.bind_eq_some_iff.mp H
  have A7 := Aside0.mk A70
  clear A70
  by_cases c1 : a2 ≥ 2
  · rw [if_pos c1] at H
    have Q1 := Aside0.mk c1
    have c1b : decide (2 ≤ a2) = true := decide_eq_true c1
    clear c1
    by_cases c2 : a2 ≤ 32
    · rw [if_pos c2] at H
      have Q2 := Aside0.mk c2
      have c2b : decide (a2 ≤ 32) = true := decide_eq_true c2
      clear c2
      have A9 := Aside0.mk (show impl_Bits_putVar.f k t1 t2 a1 a2 = some (r1, r2) from H)
      clear H
      go_enter Try.func59, Try.ntmps59
      go_wp2_with (first | ((with_reducible refine gate_dst (N := 3) rfl ?_); refine box_event ?hg (N := 3) ?hd (cs := #[.slice A0_0 l0_0.length c0_0, .int .i64 a0_1]) (t := 64) ?hr ?_; (case hd => rfl); (case hg => rfl); (case hr => first | (go_simp; done) | (go_simp; rfl)); intro gb1 hg w1 hbox hb; have n0_ := Aside0.mk (below_step (by repeat (first | exact HB.out | apply below_alloc | apply pw_below_drewN | apply below_drew1 | refine below_set ?_ GE1.out | refine below_set ?_ GE2.out | refine below_set ?_ GE3.out)) hb); have n1_ := Aside0.mk hbox; have n2_ := Aside0.mk ((by rw [hg]; exact (below_size (by repeat (first | exact HB.out | apply below_alloc | apply pw_below_drewN | apply below_drew1 | refine below_set ?_ GE1.out | refine below_set ?_ GE2.out | refine below_set ?_ GE3.out)))) : w.heap.size ≤ gb1); clear HB; have HB := n0_; have BK1 := n1_; have GE1 := n2_; clear n0_ n1_ n2_; clear hbox hb hg) | ((with_reducible refine gate_dst (N := 6) rfl ?_); refine box_event ?hg (N := 6) ?hd (cs := #[.slice none 0 0, .int .i64 0]) (t := 64) ?hr ?_; (case hd => rfl); (case hg => rfl); (case hr => first | (go_simp; done) | (go_simp; rfl)); intro gb2 hg w2 hbox hb; have m1_ := Aside0.mk (blk_below BK1.out hb); have e1_ := Aside0.mk (by rw [hg]; exact Nat.ne_of_lt (blk_lt BK1.out) : gb1 ≠ gb2); have n0_ := Aside0.mk (below_step (by repeat (first | exact HB.out | apply below_alloc | apply pw_below_drewN | apply below_drew1 | refine below_set ?_ GE1.out | refine below_set ?_ GE2.out | refine below_set ?_ GE3.out)) hb); have n1_ := Aside0.mk hbox; have n2_ := Aside0.mk ((by rw [hg]; exact (below_size (by repeat (first | exact HB.out | apply below_alloc | apply pw_below_drewN | apply below_drew1 | refine below_set ?_ GE1.out | refine below_set ?_ GE2.out | refine below_set ?_ GE3.out)))) : w.heap.size ≤ gb2); clear HB; have HB := n0_; have BK2 := n1_; have GE2 := n2_; clear n0_ n1_ n2_; clear BK1; have BK1 := m1_; have NE12 := e1_; clear m1_ e1_; clear hbox hb hg; have h10 : w2.cell? ⟨gb1, 0, none⟩ = some (Value.slice A0_0 l0_0.length c0_0) := (blk_cell BK1.out 0).trans rfl; have h11 : w2.cell? ⟨gb1, 1, none⟩ = some (Value.int .i64 a0_1) := (blk_cell BK1.out 1).trans rfl) | ((with_reducible refine gate_callee (f := 103) rfl ?_); refine goesL_ (some 9) rfl rfl Try.func103 (by kernel_rfl) rfl #[.agg #[.slice A0_0 l0_0.length c0_0, .int .i64 a0_1]] rfl (by (try simp only [List.map_toArray, List.map_cons, List.map_nil]); first | done | rfl | (simp only [List.length_drop, List.length_take]; rfl)) ?_; (with_reducible refine (impl_right.calls k _ _ l0_0 a0_1 t1 t2 _ ?side1 ?side2 A7.out).mono ?_); (case side1 => repeat (first | exact (Kd.C_below HR.out HB.out) | (with_reducible refine Kd.C_alloc ?_ _) | (with_reducible refine Kd.C_drewN ?_ _) | (with_reducible refine Kd.C_drew ?_))); (case side2 => exact HC.out); rintro e w5 ⟨v5, rfl, ho0, hb⟩; refine ⟨_, rfl, ?_⟩; have n0_ := Aside0.mk (Kd.R_lower ho0 (below_size (by repeat (first | exact HB.out | apply below_alloc | apply pw_below_drewN | apply below_drew1 | refine below_set ?_ GE1.out | refine below_set ?_ GE2.out | refine below_set ?_ GE3.out)))); have n2_ := Aside0.mk (blk_below BK2.out hb); have n3_ := Aside0.mk (below_step (by repeat (first | exact HB.out | apply below_alloc | apply pw_below_drewN | apply below_drew1 | refine below_set ?_ GE1.out | refine below_set ?_ GE2.out | refine below_set ?_ GE3.out)) hb); clear h10 h11 BK1 BK2 HB; have HO := n0_; have BK2 := n2_; have HB := n3_; clear n0_ n2_ n3_ hb ho0; obtain ⟨Av, cv, ev⟩ := Kd.R_slice HO.out; subst ev) | ((with_reducible refine gate_dst (N := 7) rfl ?_); refine box_event ?hg (N := 7) ?hd (cs := #[.slice none 0 0, .int .i64 0]) (t := 64) ?hr ?_; (case hd => rfl); (case hg => rfl); (case hr => first | (go_simp; done) | (go_simp; rfl)); intro gb3 hg w3 hbox hb; have m2_ := Aside0.mk (blk_below BK2.out hb); have e2_ := Aside0.mk (by rw [hg]; exact Nat.ne_of_lt (blk_lt BK2.out) : gb2 ≠ gb3); have rHO_ := Aside0.mk (Kd.R_below HO.out hb); have n0_ := Aside0.mk (below_step (by repeat (first | exact HB.out | apply below_alloc | apply pw_below_drewN | apply below_drew1 | refine below_set ?_ GE1.out | refine below_set ?_ GE2.out | refine below_set ?_ GE3.out)) hb); have n1_ := Aside0.mk hbox; have n2_ := Aside0.mk ((by rw [hg]; exact (below_size (by repeat (first | exact HB.out | apply below_alloc | apply pw_below_drewN | apply below_drew1 | refine below_set ?_ GE1.out | refine below_set ?_ GE2.out | refine below_set ?_ GE3.out)))) : w.heap.size ≤ gb3); clear HB; have HB := n0_; have BK3 := n1_; have GE3 := n2_; clear n0_ n1_ n2_; clear BK2; have BK2 := m2_; have NE23 := e2_; clear m2_ e2_; clear HO; have HO := rHO_; clear rHO_; clear hbox hb hg; have h30 : w3.cell? ⟨gb3, 0, none⟩ = some (Value.slice none 0 0) := (blk_cell BK3.out 0).trans rfl; have h31 : w3.cell? ⟨gb3, 1, none⟩ = some (Value.int .i64 0) := (blk_cell BK3.out 1).trans rfl; have hz30 := blk_frozen BK3.out 0; have hz31 := blk_frozen BK3.out 1; have hne23 := NE23.out; have hne32 : gb3 ≠ gb2 := Ne.symm NE23.out; have h20 : w3.cell? ⟨gb2, 0, none⟩ = some (Value.slice none 0 0) := (blk_cell BK2.out 0).trans rfl; have h21 : w3.cell? ⟨gb2, 1, none⟩ = some (Value.int .i64 0) := (blk_cell BK2.out 1).trans rfl; have hz20 := blk_frozen BK2.out 0; have hz21 := blk_frozen BK2.out 1) | ((with_reducible refine gate_callee (f := 106) rfl ?_); have n0_ : Aside0 (((w3.setCell ⟨gb3, 0, none⟩ (.slice Av t1.length cv)).setCell ⟨gb3, 1, none⟩ (.int .i64 t2)).heap[gb3]? = some (.cells #[.slice Av t1.length cv, .int .i64 t2] 64 (0, 0))) := ⟨blk_put (cs := #[.slice Av t1.length cv, .int .i64 0]) (blk_put (cs := #[.slice none 0 0, .int .i64 0]) BK3.out 0 _ rfl) 1 _ rfl⟩; have n1_ : Aside0 (((w3.setCell ⟨gb3, 0, none⟩ (.slice Av t1.length cv)).setCell ⟨gb3, 1, none⟩ (.int .i64 t2)).heap[gb2]? = some (.cells #[.slice none 0 0, .int .i64 0] 64 (0, 0))) := ⟨blk_far (blk_far BK2.out NE23.out _) NE23.out _⟩; have n2_ : Aside0 (Kd.R (Kd.int .u8) 5 ((w3.setCell ⟨gb3, 0, none⟩ (.slice Av t1.length cv)).setCell ⟨gb3, 1, none⟩ (.int .i64 t2)) w.heap.size (fun _ => True) (.slice Av t1.length cv) t1) := ⟨Kd.R_mono (Kd.R_far (p := ⟨gb3, 1, none⟩) (Kd.R_far (p := ⟨gb3, 0, none⟩) (Kd.R_types HO.out BK3.out (by decide)) (fun _ hk => hk.2) _) (fun _ hk => hk.2) _) (fun _ _ => trivial)⟩; have n3_ : Aside0 (Below w.heap.size w ((w3.setCell ⟨gb3, 0, none⟩ (.slice Av t1.length cv)).setCell ⟨gb3, 1, none⟩ (.int .i64 t2))) := ⟨below_set (below_set HB.out GE3.out) GE3.out⟩; clear h30 h31 hz30 hz31 h20 h21 hz20 hz21 HB BK2 BK3 HO; generalize ((w3.setCell ⟨gb3, 0, none⟩ (.slice Av t1.length cv)).setCell ⟨gb3, 1, none⟩ (.int .i64 t2)) = w4 at n0_ n1_ n2_ n3_ ⊢; have BK3 := n0_; have BK2 := n1_; have HO := n2_; have HB := n3_; clear n0_ n1_ n2_ n3_; refine goesL_ (some 18) rfl rfl Try.func106 (by kernel_rfl) rfl #[.pointer (some ⟨gb3, 0, none⟩), .int .u64 a1, .int .i64 a2] rfl (by (try simp only [List.map_toArray, List.map_cons, List.map_nil]); first | done | rfl) ?_; (with_reducible refine (impl_Bits_putVar.calls k gb3 _ t1 t2 a1 a2 r1 r2 w _ (fun k_ => k_ ≠ gb2) HB.out GE3.out BK3.out (Kd.R_mono (Kd.R_types HO.out BK2.out (by decide)) (fun _ hk => hk.2)) Q1.out Q2.out A9.out).mono ?_); rintro e w7 ⟨rfl, ⟨u7, hb3, ho7⟩, hB7, hk7⟩; refine ⟨_, rfl, ?_⟩; have n0_ := Aside0.mk hb3; have n1_ := Aside0.mk (blk_kept BK2.out hk7 (fun h_ => h_.elim (fun h_ => h_ rfl) NE23.out)); have n2_ := Aside0.mk ho7; have n3_ := Aside0.mk hB7; clear BK3 BK2 HO HB hb3 hk7 ho7 hB7; have BK3 := n0_; have BK2 := n1_; have HO := n2_; have HB := n3_; clear n0_ n1_ n2_ n3_; obtain ⟨Aw, cw, ew⟩ := Kd.R_slice HO.out; subst ew; have h30 : w7.cell? ⟨gb3, 0, none⟩ = some (Value.slice Aw r1.length cw) := (blk_cell BK3.out 0).trans rfl; have h31 : w7.cell? ⟨gb3, 1, none⟩ = some (Value.int .i64 r2) := (blk_cell BK3.out 1).trans rfl; have h20 : w7.cell? ⟨gb2, 0, none⟩ = some (Value.slice none 0 0) := (blk_cell BK2.out 0).trans rfl; have h21 : w7.cell? ⟨gb2, 1, none⟩ = some (Value.int .i64 0) := (blk_cell BK2.out 1).trans rfl; have hz20 := blk_frozen BK2.out 0; have hz21 := blk_frozen BK2.out 1) | (fail))
      refine bodyPost_ret (results_cell_row rfl _ _ gb2 64 #[.slice Aw r1.length cw, .int .i64 r2] (0, 0) _ rfl ?hrow Try.underlying64 rfl (by kernel_rfl)) rfl ?_
      case hrow => exact blk_put (cs := #[.slice Aw r1.length cw, .int .i64 0]) (blk_put (cs := #[.slice none 0 0, .int .i64 0]) BK2.out 0 _ rfl) 1 _ rfl
      exact ⟨_, rfl, Kd.R_mono (Kd.R_far (p := ⟨gb2, 1, none⟩) (Kd.R_far (p := ⟨gb2, 0, none⟩) (Kd.R_types HO.out BK2.out (by decide)) (fun _ hk => hk.2) _) (fun _ hk => hk.2) _) (fun _ _ => trivial), below_set (below_set HB.out GE2.out) GE2.out⟩
    · rw [if_neg c2] at H
      have c2b : decide (a2 ≤ 32) = false := decide_eq_false c2
      clear c2
      obtain ⟨rfl, rfl⟩ : t1 = r1 ∧ t2 = r2 := by
        simp only [Option.some.injEq, Prod.mk.injEq] at H
        exact H
      clear H
      go_enter Try.func59, Try.ntmps59
      go_wp2_with (first | ((with_reducible refine gate_dst (N := 3) rfl ?_); refine box_event ?hg (N := 3) ?hd (cs := #[.slice A0_0 l0_0.length c0_0, .int .i64 a0_1]) (t := 64) ?hr ?_; (case hd => rfl); (case hg => rfl); (case hr => first | (go_simp; done) | (go_simp; rfl)); intro gb1 hg w1 hbox hb; have n0_ := Aside0.mk (below_step (by repeat (first | exact HB.out | apply below_alloc | apply pw_below_drewN | apply below_drew1 | refine below_set ?_ GE1.out | refine below_set ?_ GE2.out | refine below_set ?_ GE3.out)) hb); have n1_ := Aside0.mk hbox; have n2_ := Aside0.mk ((by rw [hg]; exact (below_size (by repeat (first | exact HB.out | apply below_alloc | apply pw_below_drewN | apply below_drew1 | refine below_set ?_ GE1.out | refine below_set ?_ GE2.out | refine below_set ?_ GE3.out)))) : w.heap.size ≤ gb1); clear HB; have HB := n0_; have BK1 := n1_; have GE1 := n2_; clear n0_ n1_ n2_; clear hbox hb hg) | ((with_reducible refine gate_dst (N := 6) rfl ?_); refine box_event ?hg (N := 6) ?hd (cs := #[.slice none 0 0, .int .i64 0]) (t := 64) ?hr ?_; (case hd => rfl); (case hg => rfl); (case hr => first | (go_simp; done) | (go_simp; rfl)); intro gb2 hg w2 hbox hb; have m1_ := Aside0.mk (blk_below BK1.out hb); have e1_ := Aside0.mk (by rw [hg]; exact Nat.ne_of_lt (blk_lt BK1.out) : gb1 ≠ gb2); have n0_ := Aside0.mk (below_step (by repeat (first | exact HB.out | apply below_alloc | apply pw_below_drewN | apply below_drew1 | refine below_set ?_ GE1.out | refine below_set ?_ GE2.out | refine below_set ?_ GE3.out)) hb); have n1_ := Aside0.mk hbox; have n2_ := Aside0.mk ((by rw [hg]; exact (below_size (by repeat (first | exact HB.out | apply below_alloc | apply pw_below_drewN | apply below_drew1 | refine below_set ?_ GE1.out | refine below_set ?_ GE2.out | refine below_set ?_ GE3.out)))) : w.heap.size ≤ gb2); clear HB; have HB := n0_; have BK2 := n1_; have GE2 := n2_; clear n0_ n1_ n2_; clear BK1; have BK1 := m1_; have NE12 := e1_; clear m1_ e1_; clear hbox hb hg; have h10 : w2.cell? ⟨gb1, 0, none⟩ = some (Value.slice A0_0 l0_0.length c0_0) := (blk_cell BK1.out 0).trans rfl; have h11 : w2.cell? ⟨gb1, 1, none⟩ = some (Value.int .i64 a0_1) := (blk_cell BK1.out 1).trans rfl) | ((with_reducible refine gate_callee (f := 103) rfl ?_); refine goesL_ (some 9) rfl rfl Try.func103 (by kernel_rfl) rfl #[.agg #[.slice A0_0 l0_0.length c0_0, .int .i64 a0_1]] rfl (by (try simp only [List.map_toArray, List.map_cons, List.map_nil]); first | done | rfl | (simp only [List.length_drop, List.length_take]; rfl)) ?_; (with_reducible refine (impl_right.calls k _ _ l0_0 a0_1 t1 t2 _ ?side1 ?side2 A7.out).mono ?_); (case side1 => repeat (first | exact (Kd.C_below HR.out HB.out) | (with_reducible refine Kd.C_alloc ?_ _) | (with_reducible refine Kd.C_drewN ?_ _) | (with_reducible refine Kd.C_drew ?_))); (case side2 => exact HC.out); rintro e w5 ⟨v5, rfl, ho0, hb⟩; refine ⟨_, rfl, ?_⟩; have n0_ := Aside0.mk (Kd.R_lower ho0 (below_size (by repeat (first | exact HB.out | apply below_alloc | apply pw_below_drewN | apply below_drew1 | refine below_set ?_ GE1.out | refine below_set ?_ GE2.out | refine below_set ?_ GE3.out)))); have n2_ := Aside0.mk (blk_below BK2.out hb); have n3_ := Aside0.mk (below_step (by repeat (first | exact HB.out | apply below_alloc | apply pw_below_drewN | apply below_drew1 | refine below_set ?_ GE1.out | refine below_set ?_ GE2.out | refine below_set ?_ GE3.out)) hb); clear h10 h11 BK1 BK2 HB; have HO := n0_; have BK2 := n2_; have HB := n3_; clear n0_ n2_ n3_ hb ho0; obtain ⟨Av, cv, ev⟩ := Kd.R_slice HO.out; subst ev) | ((with_reducible refine gate_dst (N := 7) rfl ?_); refine box_event ?hg (N := 7) ?hd (cs := #[.slice none 0 0, .int .i64 0]) (t := 64) ?hr ?_; (case hd => rfl); (case hg => rfl); (case hr => first | (go_simp; done) | (go_simp; rfl)); intro gb3 hg w3 hbox hb; have m2_ := Aside0.mk (blk_below BK2.out hb); have e2_ := Aside0.mk (by rw [hg]; exact Nat.ne_of_lt (blk_lt BK2.out) : gb2 ≠ gb3); have rHO_ := Aside0.mk (Kd.R_below HO.out hb); have n0_ := Aside0.mk (below_step (by repeat (first | exact HB.out | apply below_alloc | apply pw_below_drewN | apply below_drew1 | refine below_set ?_ GE1.out | refine below_set ?_ GE2.out | refine below_set ?_ GE3.out)) hb); have n1_ := Aside0.mk hbox; have n2_ := Aside0.mk ((by rw [hg]; exact (below_size (by repeat (first | exact HB.out | apply below_alloc | apply pw_below_drewN | apply below_drew1 | refine below_set ?_ GE1.out | refine below_set ?_ GE2.out | refine below_set ?_ GE3.out)))) : w.heap.size ≤ gb3); clear HB; have HB := n0_; have BK3 := n1_; have GE3 := n2_; clear n0_ n1_ n2_; clear BK2; have BK2 := m2_; have NE23 := e2_; clear m2_ e2_; clear HO; have HO := rHO_; clear rHO_; clear hbox hb hg; have h30 : w3.cell? ⟨gb3, 0, none⟩ = some (Value.slice none 0 0) := (blk_cell BK3.out 0).trans rfl; have h31 : w3.cell? ⟨gb3, 1, none⟩ = some (Value.int .i64 0) := (blk_cell BK3.out 1).trans rfl; have hz30 := blk_frozen BK3.out 0; have hz31 := blk_frozen BK3.out 1; have hne23 := NE23.out; have hne32 : gb3 ≠ gb2 := Ne.symm NE23.out; have h20 : w3.cell? ⟨gb2, 0, none⟩ = some (Value.slice none 0 0) := (blk_cell BK2.out 0).trans rfl; have h21 : w3.cell? ⟨gb2, 1, none⟩ = some (Value.int .i64 0) := (blk_cell BK2.out 1).trans rfl; have hz20 := blk_frozen BK2.out 0; have hz21 := blk_frozen BK2.out 1) | (fail))
      refine bodyPost_ret (results_cell_row rfl _ _ gb2 64 #[.slice Av t1.length cv, .int .i64 t2] (0, 0) _ rfl ?hrow Try.underlying64 rfl (by kernel_rfl)) rfl ?_
      case hrow => exact blk_put (cs := #[.slice Av t1.length cv, .int .i64 0]) (blk_put (cs := #[.slice none 0 0, .int .i64 0]) (blk_far (blk_far BK2.out NE23.out _) NE23.out _) 0 _ rfl) 1 _ rfl
      exact ⟨_, rfl, Kd.R_mono (Kd.R_far (p := ⟨gb2, 1, none⟩) (Kd.R_far (p := ⟨gb2, 0, none⟩) (Kd.R_types (Kd.R_far (p := ⟨gb3, 1, none⟩) (Kd.R_far (p := ⟨gb3, 0, none⟩) (Kd.R_types HO.out BK3.out (by decide)) (fun _ hk => hk.2) _) (fun _ hk => hk.2) _) (blk_far (blk_far BK2.out NE23.out _) NE23.out _) (by decide)) (fun _ hk => hk.2) _) (fun _ hk => hk.2) _) (fun _ _ => trivial), below_set (below_set (below_set (below_set HB.out GE3.out) GE3.out) GE2.out) GE2.out⟩
  · rw [if_neg c1] at H
    have c1b : decide (2 ≤ a2) = false := decide_eq_false c1
    clear c1
    obtain ⟨rfl, rfl⟩ : t1 = r1 ∧ t2 = r2 := by
      simp only [Option.some.injEq, Prod.mk.injEq] at H
      exact H
    clear H
    go_enter Try.func59, Try.ntmps59
    go_wp2_with (first | ((with_reducible refine gate_dst (N := 3) rfl ?_); refine box_event ?hg (N := 3) ?hd (cs := #[.slice A0_0 l0_0.length c0_0, .int .i64 a0_1]) (t := 64) ?hr ?_; (case hd => rfl); (case hg => rfl); (case hr => first | (go_simp; done) | (go_simp; rfl)); intro gb1 hg w1 hbox hb; have n0_ := Aside0.mk (below_step (by repeat (first | exact HB.out | apply below_alloc | apply pw_below_drewN | apply below_drew1 | refine below_set ?_ GE1.out | refine below_set ?_ GE2.out | refine below_set ?_ GE3.out)) hb); have n1_ := Aside0.mk hbox; have n2_ := Aside0.mk ((by rw [hg]; exact (below_size (by repeat (first | exact HB.out | apply below_alloc | apply pw_below_drewN | apply below_drew1 | refine below_set ?_ GE1.out | refine below_set ?_ GE2.out | refine below_set ?_ GE3.out)))) : w.heap.size ≤ gb1); clear HB; have HB := n0_; have BK1 := n1_; have GE1 := n2_; clear n0_ n1_ n2_; clear hbox hb hg) | ((with_reducible refine gate_dst (N := 6) rfl ?_); refine box_event ?hg (N := 6) ?hd (cs := #[.slice none 0 0, .int .i64 0]) (t := 64) ?hr ?_; (case hd => rfl); (case hg => rfl); (case hr => first | (go_simp; done) | (go_simp; rfl)); intro gb2 hg w2 hbox hb; have m1_ := Aside0.mk (blk_below BK1.out hb); have e1_ := Aside0.mk (by rw [hg]; exact Nat.ne_of_lt (blk_lt BK1.out) : gb1 ≠ gb2); have n0_ := Aside0.mk (below_step (by repeat (first | exact HB.out | apply below_alloc | apply pw_below_drewN | apply below_drew1 | refine below_set ?_ GE1.out | refine below_set ?_ GE2.out | refine below_set ?_ GE3.out)) hb); have n1_ := Aside0.mk hbox; have n2_ := Aside0.mk ((by rw [hg]; exact (below_size (by repeat (first | exact HB.out | apply below_alloc | apply pw_below_drewN | apply below_drew1 | refine below_set ?_ GE1.out | refine below_set ?_ GE2.out | refine below_set ?_ GE3.out)))) : w.heap.size ≤ gb2); clear HB; have HB := n0_; have BK2 := n1_; have GE2 := n2_; clear n0_ n1_ n2_; clear BK1; have BK1 := m1_; have NE12 := e1_; clear m1_ e1_; clear hbox hb hg; have h10 : w2.cell? ⟨gb1, 0, none⟩ = some (Value.slice A0_0 l0_0.length c0_0) := (blk_cell BK1.out 0).trans rfl; have h11 : w2.cell? ⟨gb1, 1, none⟩ = some (Value.int .i64 a0_1) := (blk_cell BK1.out 1).trans rfl) | ((with_reducible refine gate_callee (f := 103) rfl ?_); refine goesL_ (some 9) rfl rfl Try.func103 (by kernel_rfl) rfl #[.agg #[.slice A0_0 l0_0.length c0_0, .int .i64 a0_1]] rfl (by (try simp only [List.map_toArray, List.map_cons, List.map_nil]); first | done | rfl | (simp only [List.length_drop, List.length_take]; rfl)) ?_; (with_reducible refine (impl_right.calls k _ _ l0_0 a0_1 t1 t2 _ ?side1 ?side2 A7.out).mono ?_); (case side1 => repeat (first | exact (Kd.C_below HR.out HB.out) | (with_reducible refine Kd.C_alloc ?_ _) | (with_reducible refine Kd.C_drewN ?_ _) | (with_reducible refine Kd.C_drew ?_))); (case side2 => exact HC.out); rintro e w5 ⟨v5, rfl, ho0, hb⟩; refine ⟨_, rfl, ?_⟩; have n0_ := Aside0.mk (Kd.R_lower ho0 (below_size (by repeat (first | exact HB.out | apply below_alloc | apply pw_below_drewN | apply below_drew1 | refine below_set ?_ GE1.out | refine below_set ?_ GE2.out | refine below_set ?_ GE3.out)))); have n2_ := Aside0.mk (blk_below BK2.out hb); have n3_ := Aside0.mk (below_step (by repeat (first | exact HB.out | apply below_alloc | apply pw_below_drewN | apply below_drew1 | refine below_set ?_ GE1.out | refine below_set ?_ GE2.out | refine below_set ?_ GE3.out)) hb); clear h10 h11 BK1 BK2 HB; have HO := n0_; have BK2 := n2_; have HB := n3_; clear n0_ n2_ n3_ hb ho0; obtain ⟨Av, cv, ev⟩ := Kd.R_slice HO.out; subst ev) | ((with_reducible refine gate_dst (N := 7) rfl ?_); refine box_event ?hg (N := 7) ?hd (cs := #[.slice none 0 0, .int .i64 0]) (t := 64) ?hr ?_; (case hd => rfl); (case hg => rfl); (case hr => first | (go_simp; done) | (go_simp; rfl)); intro gb3 hg w3 hbox hb; have m2_ := Aside0.mk (blk_below BK2.out hb); have e2_ := Aside0.mk (by rw [hg]; exact Nat.ne_of_lt (blk_lt BK2.out) : gb2 ≠ gb3); have rHO_ := Aside0.mk (Kd.R_below HO.out hb); have n0_ := Aside0.mk (below_step (by repeat (first | exact HB.out | apply below_alloc | apply pw_below_drewN | apply below_drew1 | refine below_set ?_ GE1.out | refine below_set ?_ GE2.out | refine below_set ?_ GE3.out)) hb); have n1_ := Aside0.mk hbox; have n2_ := Aside0.mk ((by rw [hg]; exact (below_size (by repeat (first | exact HB.out | apply below_alloc | apply pw_below_drewN | apply below_drew1 | refine below_set ?_ GE1.out | refine below_set ?_ GE2.out | refine below_set ?_ GE3.out)))) : w.heap.size ≤ gb3); clear HB; have HB := n0_; have BK3 := n1_; have GE3 := n2_; clear n0_ n1_ n2_; clear BK2; have BK2 := m2_; have NE23 := e2_; clear m2_ e2_; clear HO; have HO := rHO_; clear rHO_; clear hbox hb hg; have h30 : w3.cell? ⟨gb3, 0, none⟩ = some (Value.slice none 0 0) := (blk_cell BK3.out 0).trans rfl; have h31 : w3.cell? ⟨gb3, 1, none⟩ = some (Value.int .i64 0) := (blk_cell BK3.out 1).trans rfl; have hz30 := blk_frozen BK3.out 0; have hz31 := blk_frozen BK3.out 1; have hne23 := NE23.out; have hne32 : gb3 ≠ gb2 := Ne.symm NE23.out; have h20 : w3.cell? ⟨gb2, 0, none⟩ = some (Value.slice none 0 0) := (blk_cell BK2.out 0).trans rfl; have h21 : w3.cell? ⟨gb2, 1, none⟩ = some (Value.int .i64 0) := (blk_cell BK2.out 1).trans rfl; have hz20 := blk_frozen BK2.out 0; have hz21 := blk_frozen BK2.out 1) | (fail))
    refine bodyPost_ret (results_cell_row rfl _ _ gb2 64 #[.slice Av t1.length cv, .int .i64 t2] (0, 0) _ rfl ?hrow Try.underlying64 rfl (by kernel_rfl)) rfl ?_
    case hrow => exact blk_put (cs := #[.slice Av t1.length cv, .int .i64 0]) (blk_put (cs := #[.slice none 0 0, .int .i64 0]) (blk_far (blk_far BK2.out NE23.out _) NE23.out _) 0 _ rfl) 1 _ rfl
    exact ⟨_, rfl, Kd.R_mono (Kd.R_far (p := ⟨gb2, 1, none⟩) (Kd.R_far (p := ⟨gb2, 0, none⟩) (Kd.R_types (Kd.R_far (p := ⟨gb3, 1, none⟩) (Kd.R_far (p := ⟨gb3, 0, none⟩) (Kd.R_types HO.out BK3.out (by decide)) (fun _ hk => hk.2) _) (fun _ hk => hk.2) _) (blk_far (blk_far BK2.out NE23.out _) NE23.out _) (by decide)) (fun _ hk => hk.2) _) (fun _ hk => hk.2) _) (fun _ _ => trivial), below_set (below_set (below_set (below_set HB.out GE3.out) GE3.out) GE2.out) GE2.out⟩

/-! ### impl_GetVar: function 60 -/
mutual
def impl_GetVar.j0 : Nat → Int → Int → Bool → List Int → Int → Option (Bool × Int × Int)
  | 0, _, _, _, _, _ => none
  | k + 1, x1, x2, x18, x118000, x118001 => if x18 = true then (some (false, 0, 0)) else (impl_GetVar.l0 k x1 x2 0 0 true x118000 x118001)
def impl_GetVar.l0 : Nat → Int → Int → Int → Int → Bool → List Int → Int → Option (Bool × Int × Int)
  | 0, _, _, _, _, _, _, _ => none
  | k + 1, x1, x2, x7, x8, x9, x118000, x118001 => (impl_GetBits.f k x118000 x118001 x1 x2).bind fun bt119 => (if bt119.1 = true then (if 0 ≤ (wrap64 (x2 - 1)) then (if (shr .u64 bt119.2.1 (wrap64 (x2 - 1))) = 1 then (impl_GetVar.j2 k bt119.2.2 x2 x7 x8 (Go.bits .and .u64 bt119.2.1 (IntKind.u64.wrap ((shl .u64 1 (wrap64 (x2 - 1))) - 1))) ((shr .u64 bt119.2.1 (wrap64 (x2 - 1))) == 1) false x118000 x118001) else (if (Go.bits .and .u64 bt119.2.1 (IntKind.u64.wrap ((shl .u64 1 (wrap64 (x2 - 1))) - 1))) = 0 then (impl_GetVar.j2 k bt119.2.2 x2 x7 x8 (Go.bits .and .u64 bt119.2.1 (IntKind.u64.wrap ((shl .u64 1 (wrap64 (x2 - 1))) - 1))) ((shr .u64 bt119.2.1 (wrap64 (x2 - 1))) == 1) (!x9) x118000 x118001) else (impl_GetVar.j2 k bt119.2.2 x2 x7 x8 (Go.bits .and .u64 bt119.2.1 (IntKind.u64.wrap ((shl .u64 1 (wrap64 (x2 - 1))) - 1))) ((shr .u64 bt119.2.1 (wrap64 (x2 - 1))) == 1) false x118000 x118001))) else (none)) else (some (false, 0, 0)))
def impl_GetVar.j2 : Nat → Int → Int → Int → Int → Int → Bool → Bool → List Int → Int → Option (Bool × Int × Int)
  | 0, _, _, _, _, _, _, _, _, _ => none
  | k + 1, x1, x2, x7, x8, x11, x12, x52, x118000, x118001 => if x52 = true then (some (false, 0, 0)) else (if x11 = 0 then (impl_GetVar.j3 k x1 x2 x7 x8 x11 x12 false x118000 x118001) else (if x8 ≥ 64 then (impl_GetVar.j3 k x1 x2 x7 x8 x11 x12 true x118000 x118001) else (if 0 ≤ x8 then (impl_GetVar.j3 k x1 x2 x7 x8 x11 x12 ((shr .u64 (shl .u64 x11 x8) x8) != x11) x118000 x118001) else (none))))
def impl_GetVar.j3 : Nat → Int → Int → Int → Int → Int → Bool → Bool → List Int → Int → Option (Bool × Int × Int)
  | 0, _, _, _, _, _, _, _, _, _ => none
  | k + 1, x1, x2, x7, x8, x11, x12, x68, x118000, x118001 => if x68 = true then (some (false, 0, 0)) else (if x8 < 64 then (if 0 ≤ x8 then (impl_GetVar.j4 k x1 x2 (Go.bits .or .u64 x7 (shl .u64 x11 x8)) x8 x12 x118000 x118001) else (none)) else (impl_GetVar.j4 k x1 x2 x7 x8 x12 x118000 x118001))
def impl_GetVar.j4 : Nat → Int → Int → Int → Int → Bool → List Int → Int → Option (Bool × Int × Int)
  | 0, _, _, _, _, _, _, _ => none
  | k + 1, x1, x2, x7, x8, x12, x118000, x118001 => if x12 = true then (if (wrap64 (x8 + (wrap64 (x2 - 1)))) > 200 then (some (false, 0, 0)) else (impl_GetVar.l0 k x1 x2 x7 (wrap64 (x8 + (wrap64 (x2 - 1)))) false x118000 x118001)) else (some (true, x7, x1))
end
def impl_GetVar.f (k : Nat) (l0_0 : List Int) (a0_1 : Int) (a1 : Int) (a2 : Int) : Option (Bool × Int × Int) := if a2 < 2 then (impl_GetVar.j0 k a1 a2 true l0_0 a0_1) else (impl_GetVar.j0 k a1 a2 (decide (a2 > 32)) l0_0 a0_1)
theorem impl_GetVar.mono_l : ∀ k, (∀ y0 y1 y2 y3 y4, LeO (impl_GetVar.j0 k y0 y1 y2 y3 y4) (impl_GetVar.j0 (k + 1) y0 y1 y2 y3 y4)) ∧ (∀ y0 y1 y2 y3 y4 y5 y6, LeO (impl_GetVar.l0 k y0 y1 y2 y3 y4 y5 y6) (impl_GetVar.l0 (k + 1) y0 y1 y2 y3 y4 y5 y6)) ∧ (∀ y0 y1 y2 y3 y4 y5 y6 y7 y8, LeO (impl_GetVar.j2 k y0 y1 y2 y3 y4 y5 y6 y7 y8) (impl_GetVar.j2 (k + 1) y0 y1 y2 y3 y4 y5 y6 y7 y8)) ∧ (∀ y0 y1 y2 y3 y4 y5 y6 y7 y8, LeO (impl_GetVar.j3 k y0 y1 y2 y3 y4 y5 y6 y7 y8) (impl_GetVar.j3 (k + 1) y0 y1 y2 y3 y4 y5 y6 y7 y8)) ∧ (∀ y0 y1 y2 y3 y4 y5 y6, LeO (impl_GetVar.j4 k y0 y1 y2 y3 y4 y5 y6) (impl_GetVar.j4 (k + 1) y0 y1 y2 y3 y4 y5 y6))
  | 0 => ⟨fun _ _ _ _ _ r h => by simp [impl_GetVar.j0] at h, fun _ _ _ _ _ _ _ r h => by simp [impl_GetVar.l0] at h, fun _ _ _ _ _ _ _ _ _ r h => by simp [impl_GetVar.j2] at h, fun _ _ _ _ _ _ _ _ _ r h => by simp [impl_GetVar.j3] at h, fun _ _ _ _ _ _ _ r h => by simp [impl_GetVar.j4] at h⟩
  | k + 1 => by
    obtain ⟨ih0, ih1, ih2, ih3, ih4⟩ := impl_GetVar.mono_l k
    refine ⟨?_, ?_, ?_, ?_, ?_⟩
    · intro y0 y1 y2 y3 y4
      unfold impl_GetVar.j0
      repeat' first
      | (with_reducible exact ih0 _ _ _ _ _)
      | (with_reducible exact ih1 _ _ _ _ _ _ _)
      | (with_reducible exact ih2 _ _ _ _ _ _ _ _ _)
      | (with_reducible exact ih3 _ _ _ _ _ _ _ _ _)
      | (with_reducible exact ih4 _ _ _ _ _ _ _)
      | (with_reducible exact impl_GetBits.mono _ _ _ _ _)
      | (with_reducible exact LeO.refl _)
      | (with_reducible exact LeO.none _)
      | (with_reducible refine LeO.ite ?_ ?_)
      | (with_reducible refine LeO.bind ?_ (fun _ => ?_))
      | exact ih0 _ _ _ _ _
      | exact ih1 _ _ _ _ _ _ _
      | exact ih2 _ _ _ _ _ _ _ _ _
      | exact ih3 _ _ _ _ _ _ _ _ _
      | exact ih4 _ _ _ _ _ _ _
      | exact impl_GetBits.mono _ _ _ _ _
      | exact LeO.none _
      | refine LeO.ite ?_ ?_
      | refine LeO.bind ?_ (fun _ => ?_)
    · intro y0 y1 y2 y3 y4 y5 y6
      unfold impl_GetVar.l0
      repeat' first
      | (with_reducible exact ih0 _ _ _ _ _)
      | (with_reducible exact ih1 _ _ _ _ _ _ _)
      | (with_reducible exact ih2 _ _ _ _ _ _ _ _ _)
      | (with_reducible exact ih3 _ _ _ _ _ _ _ _ _)
      | (with_reducible exact ih4 _ _ _ _ _ _ _)
      | (with_reducible exact impl_GetBits.mono _ _ _ _ _)
      | (with_reducible exact LeO.refl _)
      | (with_reducible exact LeO.none _)
      | (with_reducible refine LeO.ite ?_ ?_)
      | (with_reducible refine LeO.bind ?_ (fun _ => ?_))
      | exact ih0 _ _ _ _ _
      | exact ih1 _ _ _ _ _ _ _
      | exact ih2 _ _ _ _ _ _ _ _ _
      | exact ih3 _ _ _ _ _ _ _ _ _
      | exact ih4 _ _ _ _ _ _ _
      | exact impl_GetBits.mono _ _ _ _ _
      | exact LeO.none _
      | refine LeO.ite ?_ ?_
      | refine LeO.bind ?_ (fun _ => ?_)
    · intro y0 y1 y2 y3 y4 y5 y6 y7 y8
      unfold impl_GetVar.j2
      repeat' first
      | (with_reducible exact ih0 _ _ _ _ _)
      | (with_reducible exact ih1 _ _ _ _ _ _ _)
      | (with_reducible exact ih2 _ _ _ _ _ _ _ _ _)
      | (with_reducible exact ih3 _ _ _ _ _ _ _ _ _)
      | (with_reducible exact ih4 _ _ _ _ _ _ _)
      | (with_reducible exact impl_GetBits.mono _ _ _ _ _)
      | (with_reducible exact LeO.refl _)
      | (with_reducible exact LeO.none _)
      | (with_reducible refine LeO.ite ?_ ?_)
      | (with_reducible refine LeO.bind ?_ (fun _ => ?_))
      | exact ih0 _ _ _ _ _
      | exact ih1 _ _ _ _ _ _ _
      | exact ih2 _ _ _ _ _ _ _ _ _
      | exact ih3 _ _ _ _ _ _ _ _ _
      | exact ih4 _ _ _ _ _ _ _
      | exact impl_GetBits.mono _ _ _ _ _
      | exact LeO.none _
      | refine LeO.ite ?_ ?_
      | refine LeO.bind ?_ (fun _ => ?_)
    · intro y0 y1 y2 y3 y4 y5 y6 y7 y8
      unfold impl_GetVar.j3
      repeat' first
      | (with_reducible exact ih0 _ _ _ _ _)
      | (with_reducible exact ih1 _ _ _ _ _ _ _)
      | (with_reducible exact ih2 _ _ _ _ _ _ _ _ _)
      | (with_reducible exact ih3 _ _ _ _ _ _ _ _ _)
      | (with_reducible exact ih4 _ _ _ _ _ _ _)
      | (with_reducible exact impl_GetBits.mono _ _ _ _ _)
      | (with_reducible exact LeO.refl _)
      | (with_reducible exact LeO.none _)
      | (with_reducible refine LeO.ite ?_ ?_)
      | (with_reducible refine LeO.bind ?_ (fun _ => ?_))
      | exact ih0 _ _ _ _ _
      | exact ih1 _ _ _ _ _ _ _
      | exact ih2 _ _ _ _ _ _ _ _ _
      | exact ih3 _ _ _ _ _ _ _ _ _
      | exact ih4 _ _ _ _ _ _ _
      | exact impl_GetBits.mono _ _ _ _ _
      | exact LeO.none _
      | refine LeO.ite ?_ ?_
      | refine LeO.bind ?_ (fun _ => ?_)
    · intro y0 y1 y2 y3 y4 y5 y6
      unfold impl_GetVar.j4
      repeat' first
      | (with_reducible exact ih0 _ _ _ _ _)
      | (with_reducible exact ih1 _ _ _ _ _ _ _)
      | (with_reducible exact ih2 _ _ _ _ _ _ _ _ _)
      | (with_reducible exact ih3 _ _ _ _ _ _ _ _ _)
      | (with_reducible exact ih4 _ _ _ _ _ _ _)
      | (with_reducible exact impl_GetBits.mono _ _ _ _ _)
      | (with_reducible exact LeO.refl _)
      | (with_reducible exact LeO.none _)
      | (with_reducible refine LeO.ite ?_ ?_)
      | (with_reducible refine LeO.bind ?_ (fun _ => ?_))
      | exact ih0 _ _ _ _ _
      | exact ih1 _ _ _ _ _ _ _
      | exact ih2 _ _ _ _ _ _ _ _ _
      | exact ih3 _ _ _ _ _ _ _ _ _
      | exact ih4 _ _ _ _ _ _ _
      | exact impl_GetBits.mono _ _ _ _ _
      | exact LeO.none _
      | refine LeO.ite ?_ ?_
      | refine LeO.bind ?_ (fun _ => ?_)
theorem impl_GetVar.mono : ∀ a0 a1 a2 a3 k, LeO (impl_GetVar.f k a0 a1 a2 a3) (impl_GetVar.f (k + 1) a0 a1 a2 a3) := by
  intro a0 a1 a2 a3 k
  obtain ⟨ih0, ih1, ih2, ih3, ih4⟩ := impl_GetVar.mono_l k
  unfold impl_GetVar.f
  repeat' first
      | (with_reducible exact ih0 _ _ _ _ _)
      | (with_reducible exact ih1 _ _ _ _ _ _ _)
      | (with_reducible exact ih2 _ _ _ _ _ _ _ _ _)
      | (with_reducible exact ih3 _ _ _ _ _ _ _ _ _)
      | (with_reducible exact ih4 _ _ _ _ _ _ _)
      | (with_reducible exact impl_GetBits.mono _ _ _ _ _)
      | (with_reducible exact LeO.refl _)
      | (with_reducible exact LeO.none _)
      | (with_reducible refine LeO.ite ?_ ?_)
      | (with_reducible refine LeO.bind ?_ (fun _ => ?_))
      | exact ih0 _ _ _ _ _
      | exact ih1 _ _ _ _ _ _ _
      | exact ih2 _ _ _ _ _ _ _ _ _
      | exact ih3 _ _ _ _ _ _ _ _ _
      | exact ih4 _ _ _ _ _ _ _
      | exact impl_GetBits.mono _ _ _ _ _
      | exact LeO.none _
      | refine LeO.ite ?_ ?_
      | refine LeO.bind ?_ (fun _ => ?_)
set_option maxHeartbeats 8000000 in
set_option maxRecDepth 100000 in
theorem impl_GetVar.calls (k : Nat) (A0_0 : Option Addr) (c0_0 : Nat) (l0_0 : List Int) (a0_1 : Int) (a1 : Int) (a2 : Int) (r1 : Bool) (r2 : Int) (r3 : Int) (w : World) (hr0_0 : Kd.C (Kd.int .u8) w A0_0 l0_0.length l0_0) (hc0_0 : l0_0.length ≤ c0_0) (h : impl_GetVar.f k l0_0 a0_1 a1 a2 = some (r1, r2, r3)) :
    Calls Try.prog 60 #[.agg #[.slice A0_0 l0_0.length c0_0, .int .i64 a0_1], .int .i64 a1, .int .i64 a2] w fun e w' => e = .returned (.agg #[.bool r1, .int .u64 r2, .int .i64 r3]) ∧ Below w.heap.size w w' := by
  have hu64 := Try.underlying64
  have hu62 := Try.underlying62
  have HR0_0 := Aside0.mk hr0_0
  have HC0_0 := Aside0.mk hc0_0
  clear hr0_0 hc0_0
  have HB := Aside0.mk (Below.refl w.heap.size w)
  have H : (if a2 < 2 then (impl_GetVar.j0 k a1 a2 true l0_0 a0_1) else (impl_GetVar.j0 k a1 a2 (decide (a2 > 32)) l0_0 a0_1)) = some (r1, r2, r3) := h
  clear h
  have HC4 := Aside0.mk H
  clear H
  go_enter Try.func60, Try.ntmps60
  go_upto_region 1 with (first | ((with_reducible refine gate_dst (N := 3) rfl ?_); refine box_event ?hg (N := 3) ?hd (cs := #[.slice A0_0 l0_0.length c0_0, .int .i64 a0_1]) (t := 64) ?hr ?_; (case hd => rfl); (case hg => rfl); (case hr => first | (go_simp; done) | (go_simp; rfl)); intro gb117 hg w5 hbox hb; have n0_ := Aside0.mk (below_step (by repeat (first | (with_reducible first | exact HB.out | apply below_alloc | apply pw_below_drewN | apply below_drew1) | exact HB.out)) hb); have n1_ := Aside0.mk (hbox); have n2_ := Aside0.mk ((by rw [hg]; exact (below_size (by repeat (first | (with_reducible first | exact HB.out | apply below_alloc | apply pw_below_drewN | apply below_drew1) | exact HB.out))) : w.heap.size ≤ gb117)); have n3_ := Aside0.mk ((by rw [hg]; exact (below_size (by repeat (first | (with_reducible first | exact HB.out | apply below_alloc | apply pw_below_drewN | apply below_drew1) | exact HB.out))) : w.heap.size ≤ gb117)); clear HB; have HB := n0_; have BK117 := n1_; have GW117 := n2_; have GE117 := n3_; clear n0_ n1_ n2_ n3_; clear hb hbox hg) | ((with_reducible refine gate_dst (N := 6) rfl ?_); refine box_event ?hg (N := 6) ?hd (cs := #[.bool false, .int .u64 0, .int .i64 0]) (t := 62) ?hr ?_; (case hd => rfl); (case hg => rfl); (case hr => first | (go_simp; done) | (go_simp; rfl)); intro gb118 hg w6 hbox hb; have n0_ := Aside0.mk (blk_below (g := gb117) (o := .cells #[.slice A0_0 l0_0.length c0_0, .int .i64 a0_1] 64 (0, 0)) (by (with_reducible repeat (first | refine blk_drewN ?_ _ | refine blk_drew ?_ | refine blk_alloc ?_ _)); exact BK117.out) hb); have n1_ := Aside0.mk (below_step (by repeat (first | (with_reducible first | exact HB.out | apply below_alloc | apply pw_below_drewN | apply below_drew1 | refine below_set ?_ GE117.out) | exact HB.out)) hb); have n2_ := Aside0.mk (hbox); have n3_ := Aside0.mk ((by rw [hg]; exact (below_size (by repeat (first | (with_reducible first | exact HB.out | apply below_alloc | apply pw_below_drewN | apply below_drew1 | refine below_set ?_ GE117.out) | exact HB.out))) : w.heap.size ≤ gb118)); have n4_ := Aside0.mk ((by rw [hg]; exact (below_size (by repeat (first | (with_reducible first | exact HB.out | apply below_alloc | apply pw_below_drewN | apply below_drew1 | refine below_set ?_ GE117.out) | exact HB.out))) : w.heap.size ≤ gb118)); have n5_ := Aside0.mk ((by rw [hg]; exact Nat.ne_of_lt (blk_lt (g := gb117) (o := .cells #[.slice A0_0 l0_0.length c0_0, .int .i64 a0_1] 64 (0, 0)) (by (with_reducible repeat (first | refine blk_drewN ?_ _ | refine blk_drew ?_ | refine blk_alloc ?_ _)); exact BK117.out)) : gb117 ≠ gb118)); have n6_ := Aside0.mk ((by rw [hg]; exact Nat.ne_of_gt (blk_lt (g := gb117) (o := .cells #[.slice A0_0 l0_0.length c0_0, .int .i64 a0_1] 64 (0, 0)) (by (with_reducible repeat (first | refine blk_drewN ?_ _ | refine blk_drew ?_ | refine blk_alloc ?_ _)); exact BK117.out)) : gb118 ≠ gb117)); clear BK117; clear HB; have BK117 := n0_; have HB := n1_; have BK118 := n2_; have GW118 := n3_; have GE118 := n4_; have NB117_118 := n5_; have NB118_117 := n6_; clear n0_ n1_ n2_ n3_ n4_ n5_ n6_; clear hb hbox hg))
  repeat (go_quiet (first | ((with_reducible refine gate_dst (N := 3) rfl ?_); refine box_event ?hg (N := 3) ?hd (cs := #[.slice A0_0 l0_0.length c0_0, .int .i64 a0_1]) (t := 64) ?hr ?_; (case hd => rfl); (case hg => rfl); (case hr => first | (go_simp; done) | (go_simp; rfl)); intro gb117 hg w5 hbox hb; have n0_ := Aside0.mk (below_step (by repeat (first | (with_reducible first | exact HB.out | apply below_alloc | apply pw_below_drewN | apply below_drew1) | exact HB.out)) hb); have n1_ := Aside0.mk (hbox); have n2_ := Aside0.mk ((by rw [hg]; exact (below_size (by repeat (first | (with_reducible first | exact HB.out | apply below_alloc | apply pw_below_drewN | apply below_drew1) | exact HB.out))) : w.heap.size ≤ gb117)); have n3_ := Aside0.mk ((by rw [hg]; exact (below_size (by repeat (first | (with_reducible first | exact HB.out | apply below_alloc | apply pw_below_drewN | apply below_drew1) | exact HB.out))) : w.heap.size ≤ gb117)); clear HB; have HB := n0_; have BK117 := n1_; have GW117 := n2_; have GE117 := n3_; clear n0_ n1_ n2_ n3_; clear hb hbox hg) | ((with_reducible refine gate_dst (N := 6) rfl ?_); refine box_event ?hg (N := 6) ?hd (cs := #[.bool false, .int .u64 0, .int .i64 0]) (t := 62) ?hr ?_; (case hd => rfl); (case hg => rfl); (case hr => first | (go_simp; done) | (go_simp; rfl)); intro gb118 hg w6 hbox hb; have n0_ := Aside0.mk (blk_below (g := gb117) (o := .cells #[.slice A0_0 l0_0.length c0_0, .int .i64 a0_1] 64 (0, 0)) (by (with_reducible repeat (first | refine blk_drewN ?_ _ | refine blk_drew ?_ | refine blk_alloc ?_ _)); exact BK117.out) hb); have n1_ := Aside0.mk (below_step (by repeat (first | (with_reducible first | exact HB.out | apply below_alloc | apply pw_below_drewN | apply below_drew1 | refine below_set ?_ GE117.out) | exact HB.out)) hb); have n2_ := Aside0.mk (hbox); have n3_ := Aside0.mk ((by rw [hg]; exact (below_size (by repeat (first | (with_reducible first | exact HB.out | apply below_alloc | apply pw_below_drewN | apply below_drew1 | refine below_set ?_ GE117.out) | exact HB.out))) : w.heap.size ≤ gb118)); have n4_ := Aside0.mk ((by rw [hg]; exact (below_size (by repeat (first | (with_reducible first | exact HB.out | apply below_alloc | apply pw_below_drewN | apply below_drew1 | refine below_set ?_ GE117.out) | exact HB.out))) : w.heap.size ≤ gb118)); have n5_ := Aside0.mk ((by rw [hg]; exact Nat.ne_of_lt (blk_lt (g := gb117) (o := .cells #[.slice A0_0 l0_0.length c0_0, .int .i64 a0_1] 64 (0, 0)) (by (with_reducible repeat (first | refine blk_drewN ?_ _ | refine blk_drew ?_ | refine blk_alloc ?_ _)); exact BK117.out)) : gb117 ≠ gb118)); have n6_ := Aside0.mk ((by rw [hg]; exact Nat.ne_of_gt (blk_lt (g := gb117) (o := .cells #[.slice A0_0 l0_0.length c0_0, .int .i64 a0_1] 64 (0, 0)) (by (with_reducible repeat (first | refine blk_drewN ?_ _ | refine blk_drew ?_ | refine blk_alloc ?_ _)); exact BK117.out)) : gb118 ≠ gb117)); clear BK117; clear HB; have BK117 := n0_; have HB := n1_; have BK118 := n2_; have GW118 := n3_; have GE118 := n4_; have NB117_118 := n5_; have NB118_117 := n6_; clear n0_ n1_ n2_ n3_ n4_ n5_ n6_; clear hb hbox hg)); go_upto_region 1 with (first | ((with_reducible refine gate_dst (N := 3) rfl ?_); refine box_event ?hg (N := 3) ?hd (cs := #[.slice A0_0 l0_0.length c0_0, .int .i64 a0_1]) (t := 64) ?hr ?_; (case hd => rfl); (case hg => rfl); (case hr => first | (go_simp; done) | (go_simp; rfl)); intro gb117 hg w5 hbox hb; have n0_ := Aside0.mk (below_step (by repeat (first | (with_reducible first | exact HB.out | apply below_alloc | apply pw_below_drewN | apply below_drew1) | exact HB.out)) hb); have n1_ := Aside0.mk (hbox); have n2_ := Aside0.mk ((by rw [hg]; exact (below_size (by repeat (first | (with_reducible first | exact HB.out | apply below_alloc | apply pw_below_drewN | apply below_drew1) | exact HB.out))) : w.heap.size ≤ gb117)); have n3_ := Aside0.mk ((by rw [hg]; exact (below_size (by repeat (first | (with_reducible first | exact HB.out | apply below_alloc | apply pw_below_drewN | apply below_drew1) | exact HB.out))) : w.heap.size ≤ gb117)); clear HB; have HB := n0_; have BK117 := n1_; have GW117 := n2_; have GE117 := n3_; clear n0_ n1_ n2_ n3_; clear hb hbox hg) | ((with_reducible refine gate_dst (N := 6) rfl ?_); refine box_event ?hg (N := 6) ?hd (cs := #[.bool false, .int .u64 0, .int .i64 0]) (t := 62) ?hr ?_; (case hd => rfl); (case hg => rfl); (case hr => first | (go_simp; done) | (go_simp; rfl)); intro gb118 hg w6 hbox hb; have n0_ := Aside0.mk (blk_below (g := gb117) (o := .cells #[.slice A0_0 l0_0.length c0_0, .int .i64 a0_1] 64 (0, 0)) (by (with_reducible repeat (first | refine blk_drewN ?_ _ | refine blk_drew ?_ | refine blk_alloc ?_ _)); exact BK117.out) hb); have n1_ := Aside0.mk (below_step (by repeat (first | (with_reducible first | exact HB.out | apply below_alloc | apply pw_below_drewN | apply below_drew1 | refine below_set ?_ GE117.out) | exact HB.out)) hb); have n2_ := Aside0.mk (hbox); have n3_ := Aside0.mk ((by rw [hg]; exact (below_size (by repeat (first | (with_reducible first | exact HB.out | apply below_alloc | apply pw_below_drewN | apply below_drew1 | refine below_set ?_ GE117.out) | exact HB.out))) : w.heap.size ≤ gb118)); have n4_ := Aside0.mk ((by rw [hg]; exact (below_size (by repeat (first | (with_reducible first | exact HB.out | apply below_alloc | apply pw_below_drewN | apply below_drew1 | refine below_set ?_ GE117.out) | exact HB.out))) : w.heap.size ≤ gb118)); have n5_ := Aside0.mk ((by rw [hg]; exact Nat.ne_of_lt (blk_lt (g := gb117) (o := .cells #[.slice A0_0 l0_0.length c0_0, .int .i64 a0_1] 64 (0, 0)) (by (with_reducible repeat (first | refine blk_drewN ?_ _ | refine blk_drew ?_ | refine blk_alloc ?_ _)); exact BK117.out)) : gb117 ≠ gb118)); have n6_ := Aside0.mk ((by rw [hg]; exact Nat.ne_of_gt (blk_lt (g := gb117) (o := .cells #[.slice A0_0 l0_0.length c0_0, .int .i64 a0_1] 64 (0, 0)) (by (with_reducible repeat (first | refine blk_drewN ?_ _ | refine blk_drew ?_ | refine blk_alloc ?_ _)); exact BK117.out)) : gb118 ≠ gb117)); clear BK117; clear HB; have BK117 := n0_; have HB := n1_; have BK118 := n2_; have GW118 := n3_; have GE118 := n4_; have NB117_118 := n5_; have NB118_117 := n6_; clear n0_ n1_ n2_ n3_ n4_ n5_ n6_; clear hb hbox hg)))
  (try simp only [Act.put, List.setIfInBounds_toArray, List.set_cons_zero, List.set_cons_succ])
  go_cut [18] (fun v18 wc => ∃ (kq : Nat) (x18_3 : Bool), v18 = .bool x18_3 ∧ Aside0 (impl_GetVar.j0 kq a1 a2 x18_3 l0_0 a0_1 = some (r1, r2, r3)) ∧ Aside0 (kq ≤ k) ∧ Aside0 (wc.heap[gb117]? = some (.cells #[(.slice A0_0 l0_0.length c0_0), .int .i64 a0_1] 64 (0, 0))) ∧ Aside0 (wc.heap[gb118]? = some (.cells #[.bool false, .int .u64 0, .int .i64 0] 62 (0, 0))) ∧ Aside0 (Below w.heap.size w wc))
  case first =>
    have H := HC4.out
    clear HC4
    by_cases c7 : a2 < 2
    · rw [if_pos c7] at H
      have c7b0 : decide (a2 < 2) = true := decide_eq_true c7
      clear c7
      (first | rw [c7b0] | (simp only [i64_w, i32_w]; rw [c7b0]) | skip)
      have H' := Aside0.mk H
      clear H
      go_wp2
      repeat (go_quiet (fail); try go_wp2)
      go_meet
      case rel => exact ⟨_, (true), (by first | rfl | (simp; done) | (simp [*]; done)), H', ⟨by first | omega | exact Nat.le_refl _⟩, ⟨by (with_reducible repeat (first | refine blk_drewN ?_ _ | refine blk_drew ?_ | refine blk_alloc ?_ _)); exact BK117.out⟩, ⟨by (with_reducible repeat (first | refine blk_drewN ?_ _ | refine blk_drew ?_ | refine blk_alloc ?_ _)); exact BK118.out⟩, ⟨by repeat (first | (with_reducible first | exact HB.out | apply below_alloc | apply pw_below_drewN | apply below_drew1 | refine below_set ?_ GE117.out | refine below_set ?_ GE118.out) | exact HB.out)⟩⟩
    · rw [if_neg c7] at H
      have c7b0 : decide (a2 < 2) = false := decide_eq_false c7
      clear c7
      (first | rw [c7b0] | (simp only [i64_w, i32_w]; rw [c7b0]) | skip)
      have H' := Aside0.mk H
      clear H
      go_wp2
      repeat (go_quiet (fail); try go_wp2)
      go_meet
      case rel => exact ⟨_, (decide (a2 > 32)), (by first | rfl | (simp; done) | (simp [*]; done)), H', ⟨by first | omega | exact Nat.le_refl _⟩, ⟨by (with_reducible repeat (first | refine blk_drewN ?_ _ | refine blk_drew ?_ | refine blk_alloc ?_ _)); exact BK117.out⟩, ⟨by (with_reducible repeat (first | refine blk_drewN ?_ _ | refine blk_drew ?_ | refine blk_alloc ?_ _)); exact BK118.out⟩, ⟨by repeat (first | (with_reducible first | exact HB.out | apply below_alloc | apply pw_below_drewN | apply below_drew1 | refine below_set ?_ GE117.out | refine below_set ?_ GE118.out) | exact HB.out)⟩⟩
  case rest =>
    clear HC4
    try clear p2
    try clear c6
    try clear c7
    try clear c7b0
    obtain ⟨kq, x18_3, rfl, HA, HJ3, BK117, BK118, HB⟩ := hcut
    cases kq with
    | zero => exact absurd HA.out (by simp [impl_GetVar.j0])
    | succ kj3 =>
      have H := HA.out
      clear HA
      simp only [impl_GetVar.j0] at H
      by_cases c8 : x18_3 = true
      · subst c8
        have H1 : (some (false, 0, 0)) = some (r1, r2, r3) := by rw [if_pos rfl] at H; exact H
        clear H
        have H := H1
        clear H1
        simp only [Option.some.injEq, Prod.mk.injEq] at H
        obtain ⟨rfl, rfl, rfl⟩ := H
        have hnb9 := NB118_117.out
        have hnc9 := NB117_118.out
        have hcz10_0 : wc.cell? ⟨gb118, 0, none⟩ = some (.bool false) := (blk_cell BK118.out 0).trans rfl
        have hcz10_1 : wc.cell? ⟨gb118, 1, none⟩ = some (.int .u64 0) := (blk_cell BK118.out 1).trans rfl
        have hcz10_2 : wc.cell? ⟨gb118, 2, none⟩ = some (.int .i64 0) := (blk_cell BK118.out 2).trans rfl
        have hfz10_0 := blk_frozen BK118.out 0
        have hfz10_1 := blk_frozen BK118.out 1
        have hfz10_2 := blk_frozen BK118.out 2
        go_wp2
        repeat (go_quiet (fail); try go_wp2)
        refine bodyPost_ret (results_cell_row rfl _ _ gb118 62 #[.bool false, .int .u64 0, .int .i64 0] (0, 0) _ rfl (by (with_reducible repeat (first | refine blk_drewN ?_ _ | refine blk_drew ?_ | refine blk_alloc ?_ _)); refine blk_put (cs := #[.bool false, .int .u64 0, .int .i64 0]) ?_ 2 _ rfl; (with_reducible repeat (first | refine blk_drewN ?_ _ | refine blk_drew ?_ | refine blk_alloc ?_ _)); refine blk_put (cs := #[.bool false, .int .u64 0, .int .i64 0]) ?_ 1 _ rfl; (with_reducible repeat (first | refine blk_drewN ?_ _ | refine blk_drew ?_ | refine blk_alloc ?_ _)); refine blk_put (cs := #[.bool false, .int .u64 0, .int .i64 0]) ?_ 0 _ rfl; (with_reducible repeat (first | refine blk_drewN ?_ _ | refine blk_drew ?_ | refine blk_alloc ?_ _)); exact BK118.out) Try.underlying62 rfl (by kernel_rfl)) rfl ?_
        exact ⟨by first | rfl | (simp [errW_none, errW_some] <;> rfl) | (simp [*, errW_none, errW_some] <;> rfl), by repeat (first | (with_reducible first | exact HB.out | apply below_alloc | apply pw_below_drewN | apply below_drew1 | refine below_set ?_ GE117.out | refine below_set ?_ GE118.out) | exact HB.out)⟩
      · replace c8 := Bool.eq_false_iff.mpr c8
        subst c8
        have H1 : (impl_GetVar.l0 kj3 a1 a2 0 0 true l0_0 a0_1) = some (r1, r2, r3) := by rw [if_neg (show ¬ (false = true) by decide)] at H; exact H
        clear H
        have H := H1
        clear H1
        have H' := Aside0.mk H
        clear H
        go_wp2
        repeat (go_quiet (fail); try go_wp2)
        go_loopg [1, 7, 8, 9] kj3 (fun kq v1 v7 v8 v9 w' => ∃ (x1_2 : Int) (x7_2 : Int) (x8_2 : Int) (x9_2 : Bool) (x119000_2 : Bool) (x119001_2 : Int) (x119002_2 : Int), v1 = .int .i64 x1_2 ∧ v7 = .int .u64 x7_2 ∧ v8 = .int .i64 x8_2 ∧ v9 = .bool x9_2 ∧ Aside0 (impl_GetVar.l0 kq x1_2 a2 x7_2 x8_2 x9_2 l0_0 a0_1 = some (r1, r2, r3)) ∧ Aside0 (kq ≤ kj3) ∧ Aside0 (w'.heap[gb117]? = some (.cells #[(.slice A0_0 l0_0.length c0_0), .int .i64 a0_1] 64 (0, 0))) ∧ Aside0 (w'.heap[gb118]? = some (.cells #[.bool x119000_2, .int .u64 x119001_2, .int .i64 x119002_2] 62 (0, 0))) ∧ Aside0 (Below w.heap.size w w'))
        case atStart => exact ⟨(a1), (0), (0), (true), (false), (0), (0), (by first | rfl | (simp; done) | (simp [*]; done)), (by first | rfl | (simp; done) | (simp [*]; done)), (by first | rfl | (simp; done) | (simp [*]; done)), (by first | rfl | (simp; done) | (simp [*]; done)), H', ⟨Nat.le_refl _⟩, ⟨by (with_reducible repeat (first | refine blk_drewN ?_ _ | refine blk_drew ?_ | refine blk_alloc ?_ _)); exact BK117.out⟩, ⟨by (with_reducible repeat (first | refine blk_drewN ?_ _ | refine blk_drew ?_ | refine blk_alloc ?_ _)); exact BK118.out⟩, ⟨by repeat (first | (with_reducible first | exact HB.out | apply below_alloc | apply pw_below_drewN | apply below_drew1 | refine below_set ?_ GE117.out | refine below_set ?_ GE118.out) | exact HB.out)⟩⟩
        case round =>
          clear H'
          try clear p2
          try clear c6
          try clear c7
          try clear c7b0
          try clear c8
          try clear c9
          try clear hcz10_0
          try clear hcz10_1
          try clear hcz10_2
          try clear hfz10_0
          try clear hfz10_1
          try clear hfz10_2
          try clear p2
          obtain ⟨x1_2, x7_2, x8_2, x9_2, x119000_2, x119001_2, x119002_2, rfl, rfl, rfl, rfl, HA, HK2, BK117, BK118, HB⟩ := hrel
          cases gk with
          | zero => exact absurd HA.out (by simp [impl_GetVar.l0])
          | succ k2 =>
            have H := HA.out
            clear HA
            simp only [impl_GetVar.l0] at H
            replace H := Option.bind_eq_some_iff.mp H
            obtain ⟨⟨t119, t120, t121⟩, A110, H⟩ := H
            replace H : (if t119 = true then (if 0 ≤ (wrap64 (a2 - 1)) then (if (shr .u64 t120 (wrap64 (a2 - 1))) = 1 then (impl_GetVar.j2 k2 t121 a2 x7_2 x8_2 (Go.bits .and .u64 t120 (IntKind.u64.wrap ((shl .u64 1 (wrap64 (a2 - 1))) - 1))) ((shr .u64 t120 (wrap64 (a2 - 1))) == 1) false l0_0 a0_1) else (if (Go.bits .and .u64 t120 (IntKind.u64.wrap ((shl .u64 1 (wrap64 (a2 - 1))) - 1))) = 0 then (impl_GetVar.j2 k2 t121 a2 x7_2 x8_2 (Go.bits .and .u64 t120 (IntKind.u64.wrap ((shl .u64 1 (wrap64 (a2 - 1))) - 1))) ((shr .u64 t120 (wrap64 (a2 - 1))) == 1) (!x9_2) l0_0 a0_1) else (impl_GetVar.j2 k2 t121 a2 x7_2 x8_2 (Go.bits .and .u64 t120 (IntKind.u64.wrap ((shl .u64 1 (wrap64 (a2 - 1))) - 1))) ((shr .u64 t120 (wrap64 (a2 - 1))) == 1) false l0_0 a0_1))) else (none)) else (some (false, 0, 0))) = some (r1, r2, r3) := H
            have A11 := Aside0.mk A110
            clear A110
            by_cases c12 : t119 = true
            · subst c12
              have H1 : (if 0 ≤ (wrap64 (a2 - 1)) then (if (shr .u64 t120 (wrap64 (a2 - 1))) = 1 then (impl_GetVar.j2 k2 t121 a2 x7_2 x8_2 (Go.bits .and .u64 t120 (IntKind.u64.wrap ((shl .u64 1 (wrap64 (a2 - 1))) - 1))) ((shr .u64 t120 (wrap64 (a2 - 1))) == 1) false l0_0 a0_1) else (if (Go.bits .and .u64 t120 (IntKind.u64.wrap ((shl .u64 1 (wrap64 (a2 - 1))) - 1))) = 0 then (impl_GetVar.j2 k2 t121 a2 x7_2 x8_2 (Go.bits .and .u64 t120 (IntKind.u64.wrap ((shl .u64 1 (wrap64 (a2 - 1))) - 1))) ((shr .u64 t120 (wrap64 (a2 - 1))) == 1) (!x9_2) l0_0 a0_1) else (impl_GetVar.j2 k2 t121 a2 x7_2 x8_2 (Go.bits .and .u64 t120 (IntKind.u64.wrap ((shl .u64 1 (wrap64 (a2 - 1))) - 1))) ((shr .u64 t120 (wrap64 (a2 - 1))) == 1) false l0_0 a0_1))) else (none)) = some (r1, r2, r3) := by rw [if_pos rfl] at H; exact H
              clear H
              have H := H1
              clear H1
              obtain ⟨ji13, hji13⟩ : ∃ j_ : Int, (wrap64 (a2 - 1)) = j_ := ⟨_, rfl⟩
              replace H : (if 0 ≤ (ji13) then (if (shr .u64 t120 (ji13)) = 1 then (impl_GetVar.j2 k2 t121 a2 x7_2 x8_2 (Go.bits .and .u64 t120 (IntKind.u64.wrap ((shl .u64 1 (ji13)) - 1))) ((shr .u64 t120 (ji13)) == 1) false l0_0 a0_1) else (if (Go.bits .and .u64 t120 (IntKind.u64.wrap ((shl .u64 1 (ji13)) - 1))) = 0 then (impl_GetVar.j2 k2 t121 a2 x7_2 x8_2 (Go.bits .and .u64 t120 (IntKind.u64.wrap ((shl .u64 1 (ji13)) - 1))) ((shr .u64 t120 (ji13)) == 1) (!x9_2) l0_0 a0_1) else (impl_GetVar.j2 k2 t121 a2 x7_2 x8_2 (Go.bits .and .u64 t120 (IntKind.u64.wrap ((shl .u64 1 (ji13)) - 1))) ((shr .u64 t120 (ji13)) == 1) false l0_0 a0_1))) else (none)) = some (r1, r2, r3) := by first | (rw [hji13] at H; exact H) | (simp only [hji13] at H ⊢; exact H)
              (try rw [hji13] at A11)
              have hji13w : (IntKind.i64.wrap (a2 - 1)) = ji13 := (i64_w _).trans hji13
              by_cases c14 : 0 ≤ (ji13)
              · rw [if_pos c14] at H
                have c14b0 := eq_true c14
                have c14b1 : decide (0 ≤ (ji13)) = true := decide_eq_true c14
                clear c14
                obtain ⟨ji15, hji15⟩ : ∃ j_ : Int, (shl .u64 1 (ji13)) = j_ := ⟨_, rfl⟩
                replace H : (if (shr .u64 t120 (ji13)) = 1 then (impl_GetVar.j2 k2 t121 a2 x7_2 x8_2 (Go.bits .and .u64 t120 (IntKind.u64.wrap ((ji15) - 1))) ((shr .u64 t120 (ji13)) == 1) false l0_0 a0_1) else (if (Go.bits .and .u64 t120 (IntKind.u64.wrap ((ji15) - 1))) = 0 then (impl_GetVar.j2 k2 t121 a2 x7_2 x8_2 (Go.bits .and .u64 t120 (IntKind.u64.wrap ((ji15) - 1))) ((shr .u64 t120 (ji13)) == 1) (!x9_2) l0_0 a0_1) else (impl_GetVar.j2 k2 t121 a2 x7_2 x8_2 (Go.bits .and .u64 t120 (IntKind.u64.wrap ((ji15) - 1))) ((shr .u64 t120 (ji13)) == 1) false l0_0 a0_1))) = some (r1, r2, r3) := by first | (rw [hji15] at H; exact H) | (simp only [hji15] at H ⊢; exact H)
                (try rw [hji15] at A11)
                have hji15_ : (IntKind.u64.wrap (1 * 2 ^ min (ji13).toNat 64)) = ji15 := hji15
                have hji15z : (ji13) ≤ 64 → (IntKind.u64.wrap (1 * 2 ^ (ji13).toNat)) = ji15 := shl_small hji15
                have hji15u : (IntKind.u64.wrap (2 ^ min (ji13).toNat 64)) = ji15 := by have h_ := hji15_; rw [Int.one_mul] at h_; exact h_
                have hji15v : (ji13) ≤ 64 → (IntKind.u64.wrap (2 ^ (ji13).toNat)) = ji15 := fun hle_ => by have h_ := hji15z hle_; rw [Int.one_mul] at h_; exact h_
                have c16b0 := eq_true (of_decide_eq_true (by first | (with_reducible assumption) | assumption) : 0 ≤ (ji13))
                obtain ⟨ji17, hji17⟩ : ∃ j_ : Int, (shr .u64 t120 (ji13)) = j_ := ⟨_, rfl⟩
                replace H : (if (ji17) = 1 then (impl_GetVar.j2 k2 t121 a2 x7_2 x8_2 (Go.bits .and .u64 t120 (IntKind.u64.wrap ((ji15) - 1))) ((ji17) == 1) false l0_0 a0_1) else (if (Go.bits .and .u64 t120 (IntKind.u64.wrap ((ji15) - 1))) = 0 then (impl_GetVar.j2 k2 t121 a2 x7_2 x8_2 (Go.bits .and .u64 t120 (IntKind.u64.wrap ((ji15) - 1))) ((ji17) == 1) (!x9_2) l0_0 a0_1) else (impl_GetVar.j2 k2 t121 a2 x7_2 x8_2 (Go.bits .and .u64 t120 (IntKind.u64.wrap ((ji15) - 1))) ((ji17) == 1) false l0_0 a0_1))) = some (r1, r2, r3) := by first | (rw [hji17] at H; exact H) | (simp only [hji17] at H ⊢; exact H)
                (try rw [hji17] at A11)
                have hji17_ : (t120 / 2 ^ min (ji13).toNat 64) = ji17 := hji17
                have hji17z : (ji13) ≤ 64 → (t120 / 2 ^ (ji13).toNat) = ji17 := shr_small hji17
                have HC18 := Aside0.mk H
                clear H
                have hnb19 := NB117_118.out
                have hnc19 := NB118_117.out
                have hcz20_0 : wr.cell? ⟨gb117, 0, none⟩ = some (.slice A0_0 l0_0.length c0_0) := (blk_cell BK117.out 0).trans rfl
                have hcz20_1 : wr.cell? ⟨gb117, 1, none⟩ = some (.int .i64 a0_1) := (blk_cell BK117.out 1).trans rfl
                have hfz20_0 := blk_frozen BK117.out 0
                have hfz20_1 := blk_frozen BK117.out 1
                go_upto_region 12 with (first | (go_at_call 39; (with_reducible refine (impl_GetBits.calls k2 _ _ l0_0 a0_1 x1_2 a2 true t120 t121 _ ?side1 ?side2 A11.out).mono ?_); (case side1 => repeat (first | exact (Kd.C_below HR0_0.out HB.out) | (with_reducible refine Kd.C_alloc ?_ _) | (with_reducible refine Kd.C_drewN ?_ _) | (with_reducible refine Kd.C_drew ?_))); (case side2 => exact HC0_0.out); rintro e w21 ⟨rfl, hb⟩; have n0_ := Aside0.mk (blk_below (g := gb117) (o := .cells #[.slice A0_0 l0_0.length c0_0, .int .i64 a0_1] 64 (0, 0)) (by (with_reducible repeat (first | refine blk_drewN ?_ _ | refine blk_drew ?_ | refine blk_alloc ?_ _)); exact BK117.out) hb); have n1_ := Aside0.mk (blk_below (g := gb118) (o := .cells #[.bool x119000_2, .int .u64 x119001_2, .int .i64 x119002_2] 62 (0, 0)) (by (with_reducible repeat (first | refine blk_drewN ?_ _ | refine blk_drew ?_ | refine blk_alloc ?_ _)); exact BK118.out) hb); have n2_ := Aside0.mk (below_step (by repeat (first | (with_reducible first | exact HB.out | apply below_alloc | apply pw_below_drewN | apply below_drew1 | refine below_set ?_ GE117.out | refine below_set ?_ GE118.out) | exact HB.out)) hb); clear BK117; clear BK118; clear HB; have BK117 := n0_; have BK118 := n1_; have HB := n2_; clear n0_ n1_ n2_; (try clear hb); (try clear hb2); (try clear hk); (try clear hi)) | ((with_reducible refine gate_dst (N := 10) rfl ?_); refine box_event ?hg (N := 10) ?hd (cs := #[.bool false, .int .u64 0, .int .i64 0]) (t := 62) ?hr ?_; (case hd => rfl); (case hg => rfl); (case hr => first | (go_simp; done) | (go_simp; rfl)); intro gb122 hg w22 hbox hb; have n0_ := Aside0.mk (blk_below (g := gb117) (o := .cells #[.slice A0_0 l0_0.length c0_0, .int .i64 a0_1] 64 (0, 0)) (by (with_reducible repeat (first | refine blk_drewN ?_ _ | refine blk_drew ?_ | refine blk_alloc ?_ _)); exact BK117.out) hb); have n1_ := Aside0.mk (blk_below (g := gb118) (o := .cells #[.bool x119000_2, .int .u64 x119001_2, .int .i64 x119002_2] 62 (0, 0)) (by (with_reducible repeat (first | refine blk_drewN ?_ _ | refine blk_drew ?_ | refine blk_alloc ?_ _)); exact BK118.out) hb); have n2_ := Aside0.mk (below_step (by repeat (first | (with_reducible first | exact HB.out | apply below_alloc | apply pw_below_drewN | apply below_drew1 | refine below_set ?_ GE117.out | refine below_set ?_ GE118.out) | exact HB.out)) hb); have n3_ := Aside0.mk (hbox); have n4_ := Aside0.mk ((by rw [hg]; exact (below_size (by repeat (first | (with_reducible first | exact HB.out | apply below_alloc | apply pw_below_drewN | apply below_drew1 | refine below_set ?_ GE117.out | refine below_set ?_ GE118.out) | exact HB.out))) : w.heap.size ≤ gb122)); have n5_ := Aside0.mk ((by rw [hg]; exact (below_size (by repeat (first | (with_reducible first | exact HB.out | apply below_alloc | apply pw_below_drewN | apply below_drew1 | refine below_set ?_ GE117.out | refine below_set ?_ GE118.out) | exact HB.out))) : w.heap.size ≤ gb122)); have n6_ := Aside0.mk ((by rw [hg]; exact Nat.ne_of_lt (blk_lt (g := gb117) (o := .cells #[.slice A0_0 l0_0.length c0_0, .int .i64 a0_1] 64 (0, 0)) (by (with_reducible repeat (first | refine blk_drewN ?_ _ | refine blk_drew ?_ | refine blk_alloc ?_ _)); exact BK117.out)) : gb117 ≠ gb122)); have n7_ := Aside0.mk ((by rw [hg]; exact Nat.ne_of_gt (blk_lt (g := gb117) (o := .cells #[.slice A0_0 l0_0.length c0_0, .int .i64 a0_1] 64 (0, 0)) (by (with_reducible repeat (first | refine blk_drewN ?_ _ | refine blk_drew ?_ | refine blk_alloc ?_ _)); exact BK117.out)) : gb122 ≠ gb117)); have n8_ := Aside0.mk ((by rw [hg]; exact Nat.ne_of_lt (blk_lt (g := gb118) (o := .cells #[.bool x119000_2, .int .u64 x119001_2, .int .i64 x119002_2] 62 (0, 0)) (by (with_reducible repeat (first | refine blk_drewN ?_ _ | refine blk_drew ?_ | refine blk_alloc ?_ _)); exact BK118.out)) : gb118 ≠ gb122)); have n9_ := Aside0.mk ((by rw [hg]; exact Nat.ne_of_gt (blk_lt (g := gb118) (o := .cells #[.bool x119000_2, .int .u64 x119001_2, .int .i64 x119002_2] 62 (0, 0)) (by (with_reducible repeat (first | refine blk_drewN ?_ _ | refine blk_drew ?_ | refine blk_alloc ?_ _)); exact BK118.out)) : gb122 ≠ gb118)); clear BK117; clear BK118; clear HB; have BK117 := n0_; have BK118 := n1_; have HB := n2_; have BK122 := n3_; have GW122 := n4_; have GE122 := n5_; have NB117_122 := n6_; have NB122_117 := n7_; have NB118_122 := n8_; have NB122_118 := n9_; clear n0_ n1_ n2_ n3_ n4_ n5_ n6_ n7_ n8_ n9_; clear hb hbox hg; have hnb23 := NB122_117.out; have hnc23 := NB117_122.out; have hnb24 := NB122_118.out; have hnc24 := NB118_122.out; have hcz25_0 : w22.cell? ⟨gb122, 0, none⟩ = some (.bool false) := (blk_cell BK122.out 0).trans rfl; have hcz25_1 : w22.cell? ⟨gb122, 1, none⟩ = some (.int .u64 0) := (blk_cell BK122.out 1).trans rfl; have hcz25_2 : w22.cell? ⟨gb122, 2, none⟩ = some (.int .i64 0) := (blk_cell BK122.out 2).trans rfl; have hfz25_0 := blk_frozen BK122.out 0; have hfz25_1 := blk_frozen BK122.out 1; have hfz25_2 := blk_frozen BK122.out 2))
                repeat (go_quiet (first | (go_at_call 39; (with_reducible refine (impl_GetBits.calls k2 _ _ l0_0 a0_1 x1_2 a2 true t120 t121 _ ?side1 ?side2 A11.out).mono ?_); (case side1 => repeat (first | exact (Kd.C_below HR0_0.out HB.out) | (with_reducible refine Kd.C_alloc ?_ _) | (with_reducible refine Kd.C_drewN ?_ _) | (with_reducible refine Kd.C_drew ?_))); (case side2 => exact HC0_0.out); rintro e w21 ⟨rfl, hb⟩; have n0_ := Aside0.mk (blk_below (g := gb117) (o := .cells #[.slice A0_0 l0_0.length c0_0, .int .i64 a0_1] 64 (0, 0)) (by (with_reducible repeat (first | refine blk_drewN ?_ _ | refine blk_drew ?_ | refine blk_alloc ?_ _)); exact BK117.out) hb); have n1_ := Aside0.mk (blk_below (g := gb118) (o := .cells #[.bool x119000_2, .int .u64 x119001_2, .int .i64 x119002_2] 62 (0, 0)) (by (with_reducible repeat (first | refine blk_drewN ?_ _ | refine blk_drew ?_ | refine blk_alloc ?_ _)); exact BK118.out) hb); have n2_ := Aside0.mk (below_step (by repeat (first | (with_reducible first | exact HB.out | apply below_alloc | apply pw_below_drewN | apply below_drew1 | refine below_set ?_ GE117.out | refine below_set ?_ GE118.out) | exact HB.out)) hb); clear BK117; clear BK118; clear HB; have BK117 := n0_; have BK118 := n1_; have HB := n2_; clear n0_ n1_ n2_; (try clear hb); (try clear hb2); (try clear hk); (try clear hi)) | ((with_reducible refine gate_dst (N := 10) rfl ?_); refine box_event ?hg (N := 10) ?hd (cs := #[.bool false, .int .u64 0, .int .i64 0]) (t := 62) ?hr ?_; (case hd => rfl); (case hg => rfl); (case hr => first | (go_simp; done) | (go_simp; rfl)); intro gb122 hg w22 hbox hb; have n0_ := Aside0.mk (blk_below (g := gb117) (o := .cells #[.slice A0_0 l0_0.length c0_0, .int .i64 a0_1] 64 (0, 0)) (by (with_reducible repeat (first | refine blk_drewN ?_ _ | refine blk_drew ?_ | refine blk_alloc ?_ _)); exact BK117.out) hb); have n1_ := Aside0.mk (blk_below (g := gb118) (o := .cells #[.bool x119000_2, .int .u64 x119001_2, .int .i64 x119002_2] 62 (0, 0)) (by (with_reducible repeat (first | refine blk_drewN ?_ _ | refine blk_drew ?_ | refine blk_alloc ?_ _)); exact BK118.out) hb); have n2_ := Aside0.mk (below_step (by repeat (first | (with_reducible first | exact HB.out | apply below_alloc | apply pw_below_drewN | apply below_drew1 | refine below_set ?_ GE117.out | refine below_set ?_ GE118.out) | exact HB.out)) hb); have n3_ := Aside0.mk (hbox); have n4_ := Aside0.mk ((by rw [hg]; exact (below_size (by repeat (first | (with_reducible first | exact HB.out | apply below_alloc | apply pw_below_drewN | apply below_drew1 | refine below_set ?_ GE117.out | refine below_set ?_ GE118.out) | exact HB.out))) : w.heap.size ≤ gb122)); have n5_ := Aside0.mk ((by rw [hg]; exact (below_size (by repeat (first | (with_reducible first | exact HB.out | apply below_alloc | apply pw_below_drewN | apply below_drew1 | refine below_set ?_ GE117.out | refine below_set ?_ GE118.out) | exact HB.out))) : w.heap.size ≤ gb122)); have n6_ := Aside0.mk ((by rw [hg]; exact Nat.ne_of_lt (blk_lt (g := gb117) (o := .cells #[.slice A0_0 l0_0.length c0_0, .int .i64 a0_1] 64 (0, 0)) (by (with_reducible repeat (first | refine blk_drewN ?_ _ | refine blk_drew ?_ | refine blk_alloc ?_ _)); exact BK117.out)) : gb117 ≠ gb122)); have n7_ := Aside0.mk ((by rw [hg]; exact Nat.ne_of_gt (blk_lt (g := gb117) (o := .cells #[.slice A0_0 l0_0.length c0_0, .int .i64 a0_1] 64 (0, 0)) (by (with_reducible repeat (first | refine blk_drewN ?_ _ | refine blk_drew ?_ | refine blk_alloc ?_ _)); exact BK117.out)) : gb122 ≠ gb117)); have n8_ := Aside0.mk ((by rw [hg]; exact Nat.ne_of_lt (blk_lt (g := gb118) (o := .cells #[.bool x119000_2, .int .u64 x119001_2, .int .i64 x119002_2] 62 (0, 0)) (by (with_reducible repeat (first | refine blk_drewN ?_ _ | refine blk_drew ?_ | refine blk_alloc ?_ _)); exact BK118.out)) : gb118 ≠ gb122)); have n9_ := Aside0.mk ((by rw [hg]; exact Nat.ne_of_gt (blk_lt (g := gb118) (o := .cells #[.bool x119000_2, .int .u64 x119001_2, .int .i64 x119002_2] 62 (0, 0)) (by (with_reducible repeat (first | refine blk_drewN ?_ _ | refine blk_drew ?_ | refine blk_alloc ?_ _)); exact BK118.out)) : gb122 ≠ gb118)); clear BK117; clear BK118; clear HB; have BK117 := n0_; have BK118 := n1_; have HB := n2_; have BK122 := n3_; have GW122 := n4_; have GE122 := n5_; have NB117_122 := n6_; have NB122_117 := n7_; have NB118_122 := n8_; have NB122_118 := n9_; clear n0_ n1_ n2_ n3_ n4_ n5_ n6_ n7_ n8_ n9_; clear hb hbox hg; have hnb23 := NB122_117.out; have hnc23 := NB117_122.out; have hnb24 := NB122_118.out; have hnc24 := NB118_122.out; have hcz25_0 : w22.cell? ⟨gb122, 0, none⟩ = some (.bool false) := (blk_cell BK122.out 0).trans rfl; have hcz25_1 : w22.cell? ⟨gb122, 1, none⟩ = some (.int .u64 0) := (blk_cell BK122.out 1).trans rfl; have hcz25_2 : w22.cell? ⟨gb122, 2, none⟩ = some (.int .i64 0) := (blk_cell BK122.out 2).trans rfl; have hfz25_0 := blk_frozen BK122.out 0; have hfz25_1 := blk_frozen BK122.out 1; have hfz25_2 := blk_frozen BK122.out 2)); go_upto_region 12 with (first | (go_at_call 39; (with_reducible refine (impl_GetBits.calls k2 _ _ l0_0 a0_1 x1_2 a2 true t120 t121 _ ?side1 ?side2 A11.out).mono ?_); (case side1 => repeat (first | exact (Kd.C_below HR0_0.out HB.out) | (with_reducible refine Kd.C_alloc ?_ _) | (with_reducible refine Kd.C_drewN ?_ _) | (with_reducible refine Kd.C_drew ?_))); (case side2 => exact HC0_0.out); rintro e w21 ⟨rfl, hb⟩; have n0_ := Aside0.mk (blk_below (g := gb117) (o := .cells #[.slice A0_0 l0_0.length c0_0, .int .i64 a0_1] 64 (0, 0)) (by (with_reducible repeat (first | refine blk_drewN ?_ _ | refine blk_drew ?_ | refine blk_alloc ?_ _)); exact BK117.out) hb); have n1_ := Aside0.mk (blk_below (g := gb118) (o := .cells #[.bool x119000_2, .int .u64 x119001_2, .int .i64 x119002_2] 62 (0, 0)) (by (with_reducible repeat (first | refine blk_drewN ?_ _ | refine blk_drew ?_ | refine blk_alloc ?_ _)); exact BK118.out) hb); have n2_ := Aside0.mk (below_step (by repeat (first | (with_reducible first | exact HB.out | apply below_alloc | apply pw_below_drewN | apply below_drew1 | refine below_set ?_ GE117.out | refine below_set ?_ GE118.out) | exact HB.out)) hb); clear BK117; clear BK118; clear HB; have BK117 := n0_; have BK118 := n1_; have HB := n2_; clear n0_ n1_ n2_; (try clear hb); (try clear hb2); (try clear hk); (try clear hi)) | ((with_reducible refine gate_dst (N := 10) rfl ?_); refine box_event ?hg (N := 10) ?hd (cs := #[.bool false, .int .u64 0, .int .i64 0]) (t := 62) ?hr ?_; (case hd => rfl); (case hg => rfl); (case hr => first | (go_simp; done) | (go_simp; rfl)); intro gb122 hg w22 hbox hb; have n0_ := Aside0.mk (blk_below (g := gb117) (o := .cells #[.slice A0_0 l0_0.length c0_0, .int .i64 a0_1] 64 (0, 0)) (by (with_reducible repeat (first | refine blk_drewN ?_ _ | refine blk_drew ?_ | refine blk_alloc ?_ _)); exact BK117.out) hb); have n1_ := Aside0.mk (blk_below (g := gb118) (o := .cells #[.bool x119000_2, .int .u64 x119001_2, .int .i64 x119002_2] 62 (0, 0)) (by (with_reducible repeat (first | refine blk_drewN ?_ _ | refine blk_drew ?_ | refine blk_alloc ?_ _)); exact BK118.out) hb); have n2_ := Aside0.mk (below_step (by repeat (first | (with_reducible first | exact HB.out | apply below_alloc | apply pw_below_drewN | apply below_drew1 | refine below_set ?_ GE117.out | refine below_set ?_ GE118.out) | exact HB.out)) hb); have n3_ := Aside0.mk (hbox); have n4_ := Aside0.mk ((by rw [hg]; exact (below_size (by repeat (first | (with_reducible first | exact HB.out | apply below_alloc | apply pw_below_drewN | apply below_drew1 | refine below_set ?_ GE117.out | refine below_set ?_ GE118.out) | exact HB.out))) : w.heap.size ≤ gb122)); have n5_ := Aside0.mk ((by rw [hg]; exact (below_size (by repeat (first | (with_reducible first | exact HB.out | apply below_alloc | apply pw_below_drewN | apply below_drew1 | refine below_set ?_ GE117.out | refine below_set ?_ GE118.out) | exact HB.out))) : w.heap.size ≤ gb122)); have n6_ := Aside0.mk ((by rw [hg]; exact Nat.ne_of_lt (blk_lt (g := gb117) (o := .cells #[.slice A0_0 l0_0.length c0_0, .int .i64 a0_1] 64 (0, 0)) (by (with_reducible repeat (first | refine blk_drewN ?_ _ | refine blk_drew ?_ | refine blk_alloc ?_ _)); exact BK117.out)) : gb117 ≠ gb122)); have n7_ := Aside0.mk ((by rw [hg]; exact Nat.ne_of_gt (blk_lt (g := gb117) (o := .cells #[.slice A0_0 l0_0.length c0_0, .int .i64 a0_1] 64 (0, 0)) (by (with_reducible repeat (first | refine blk_drewN ?_ _ | refine blk_drew ?_ | refine blk_alloc ?_ _)); exact BK117.out)) : gb122 ≠ gb117)); have n8_ := Aside0.mk ((by rw [hg]; exact Nat.ne_of_lt (blk_lt (g := gb118) (o := .cells #[.bool x119000_2, .int .u64 x119001_2, .int .i64 x119002_2] 62 (0, 0)) (by (with_reducible repeat (first | refine blk_drewN ?_ _ | refine blk_drew ?_ | refine blk_alloc ?_ _)); exact BK118.out)) : gb118 ≠ gb122)); have n9_ := Aside0.mk ((by rw [hg]; exact Nat.ne_of_gt (blk_lt (g := gb118) (o := .cells #[.bool x119000_2, .int .u64 x119001_2, .int .i64 x119002_2] 62 (0, 0)) (by (with_reducible repeat (first | refine blk_drewN ?_ _ | refine blk_drew ?_ | refine blk_alloc ?_ _)); exact BK118.out)) : gb122 ≠ gb118)); clear BK117; clear BK118; clear HB; have BK117 := n0_; have BK118 := n1_; have HB := n2_; have BK122 := n3_; have GW122 := n4_; have GE122 := n5_; have NB117_122 := n6_; have NB122_117 := n7_; have NB118_122 := n8_; have NB122_118 := n9_; clear n0_ n1_ n2_ n3_ n4_ n5_ n6_ n7_ n8_ n9_; clear hb hbox hg; have hnb23 := NB122_117.out; have hnc23 := NB117_122.out; have hnb24 := NB122_118.out; have hnc24 := NB118_122.out; have hcz25_0 : w22.cell? ⟨gb122, 0, none⟩ = some (.bool false) := (blk_cell BK122.out 0).trans rfl; have hcz25_1 : w22.cell? ⟨gb122, 1, none⟩ = some (.int .u64 0) := (blk_cell BK122.out 1).trans rfl; have hcz25_2 : w22.cell? ⟨gb122, 2, none⟩ = some (.int .i64 0) := (blk_cell BK122.out 2).trans rfl; have hfz25_0 := blk_frozen BK122.out 0; have hfz25_1 := blk_frozen BK122.out 1; have hfz25_2 := blk_frozen BK122.out 2)))
                (try simp only [Act.put, List.setIfInBounds_toArray, List.set_cons_zero, List.set_cons_succ])
                go_cut [52] (fun v52 wc => ∃ (kq : Nat) (x52_17 : Bool), v52 = .bool x52_17 ∧ Aside0 (impl_GetVar.j2 kq t121 a2 x7_2 x8_2 (Go.bits .and .u64 t120 (IntKind.u64.wrap ((ji15) - 1))) ((ji17) == 1) x52_17 l0_0 a0_1 = some (r1, r2, r3)) ∧ Aside0 (kq ≤ k2) ∧ Aside0 (wc.heap[gb117]? = some (.cells #[(.slice A0_0 l0_0.length c0_0), .int .i64 a0_1] 64 (0, 0))) ∧ Aside0 (wc.heap[gb118]? = some (.cells #[.bool x119000_2, .int .u64 x119001_2, .int .i64 x119002_2] 62 (0, 0))) ∧ Aside0 (wc.heap[gb122]? = some (.cells #[.bool true, .int .u64 t120, .int .i64 t121] 62 (0, 0))) ∧ Aside0 (Below w.heap.size w wc))
                case first =>
                  have H := HC18.out
                  clear HC18
                  by_cases c26 : (ji17) = 1
                  · rw [if_pos c26] at H
                    have c26b0 : ((ji17) == 1) = true := beq_iff_eq.mpr c26
                    have c26b1 : ((ji17) != 1) = false := bne_eq_false_iff_eq.mpr c26
                    clear c26
                    (first | rw [c26b0] | (simp only [i64_w, i32_w]; rw [c26b0]) | skip)
                    have H' := Aside0.mk H
                    clear H
                    go_wp2
                    repeat (go_quiet (fail); try go_wp2)
                    (conv in (occs := 1) Value.bool true => rw [show Value.bool true = Value.bool (ji17 == 1) from by rw [c26b0]])
                    go_meet
                    case rel => exact ⟨_, (false), (by first | rfl | (simp; done) | (simp [*]; done)), H', ⟨by have := HJ3.out; have := HK2.out; first | omega | exact Nat.le_refl _⟩, ⟨by (with_reducible repeat (first | refine blk_drewN ?_ _ | refine blk_drew ?_ | refine blk_alloc ?_ _)); refine blk_far ?_ NB117_122.out _; (with_reducible repeat (first | refine blk_drewN ?_ _ | refine blk_drew ?_ | refine blk_alloc ?_ _)); refine blk_far ?_ NB117_122.out _; (with_reducible repeat (first | refine blk_drewN ?_ _ | refine blk_drew ?_ | refine blk_alloc ?_ _)); refine blk_far ?_ NB117_122.out _; (with_reducible repeat (first | refine blk_drewN ?_ _ | refine blk_drew ?_ | refine blk_alloc ?_ _)); exact BK117.out⟩, ⟨by (with_reducible repeat (first | refine blk_drewN ?_ _ | refine blk_drew ?_ | refine blk_alloc ?_ _)); refine blk_far ?_ NB118_122.out _; (with_reducible repeat (first | refine blk_drewN ?_ _ | refine blk_drew ?_ | refine blk_alloc ?_ _)); refine blk_far ?_ NB118_122.out _; (with_reducible repeat (first | refine blk_drewN ?_ _ | refine blk_drew ?_ | refine blk_alloc ?_ _)); refine blk_far ?_ NB118_122.out _; (with_reducible repeat (first | refine blk_drewN ?_ _ | refine blk_drew ?_ | refine blk_alloc ?_ _)); exact BK118.out⟩, ⟨by (with_reducible repeat (first | refine blk_drewN ?_ _ | refine blk_drew ?_ | refine blk_alloc ?_ _)); refine blk_put (cs := #[.bool true, .int .u64 t120, .int .i64 0]) ?_ 2 _ rfl; (with_reducible repeat (first | refine blk_drewN ?_ _ | refine blk_drew ?_ | refine blk_alloc ?_ _)); refine blk_put (cs := #[.bool true, .int .u64 0, .int .i64 0]) ?_ 1 _ rfl; (with_reducible repeat (first | refine blk_drewN ?_ _ | refine blk_drew ?_ | refine blk_alloc ?_ _)); refine blk_put (cs := #[.bool false, .int .u64 0, .int .i64 0]) ?_ 0 _ rfl; (with_reducible repeat (first | refine blk_drewN ?_ _ | refine blk_drew ?_ | refine blk_alloc ?_ _)); exact BK122.out⟩, ⟨by repeat (first | (with_reducible first | exact HB.out | apply below_alloc | apply pw_below_drewN | apply below_drew1 | refine below_set ?_ GE117.out | refine below_set ?_ GE118.out | refine below_set ?_ GE122.out) | exact HB.out)⟩⟩
                  · rw [if_neg c26] at H
                    have c26b0 : ((ji17) == 1) = false := beq_eq_false_iff_ne.mpr c26
                    have c26b1 : ((ji17) != 1) = true := bne_iff_ne.mpr c26
                    (first | rw [c26b0] | (simp only [i64_w, i32_w]; rw [c26b0]) | skip)
                    by_cases c27 : (Go.bits .and .u64 t120 (IntKind.u64.wrap ((ji15) - 1))) = 0
                    · rw [if_pos c27] at H
                      have c27b0 : ((Go.bits .and .u64 t120 (IntKind.u64.wrap ((ji15) - 1))) == 0) = true := beq_iff_eq.mpr c27
                      have c27b1 : ((Go.bits .and .u64 t120 (IntKind.u64.wrap ((ji15) - 1))) != 0) = false := bne_eq_false_iff_eq.mpr c27
                      clear c27
                      have H' := Aside0.mk H
                      clear H
                      go_wp2
                      repeat (go_quiet (fail); try go_wp2)
                      (conv in (occs := 1) Value.bool false => rw [show Value.bool false = Value.bool (ji17 == 1) from by rw [c26b0]])
                      go_meet
                      case rel => exact ⟨_, (!x9_2), (by first | rfl | (simp; done) | (simp [*]; done)), H', ⟨by have := HJ3.out; have := HK2.out; first | omega | exact Nat.le_refl _⟩, ⟨by (with_reducible repeat (first | refine blk_drewN ?_ _ | refine blk_drew ?_ | refine blk_alloc ?_ _)); refine blk_far ?_ NB117_122.out _; (with_reducible repeat (first | refine blk_drewN ?_ _ | refine blk_drew ?_ | refine blk_alloc ?_ _)); refine blk_far ?_ NB117_122.out _; (with_reducible repeat (first | refine blk_drewN ?_ _ | refine blk_drew ?_ | refine blk_alloc ?_ _)); refine blk_far ?_ NB117_122.out _; (with_reducible repeat (first | refine blk_drewN ?_ _ | refine blk_drew ?_ | refine blk_alloc ?_ _)); exact BK117.out⟩, ⟨by (with_reducible repeat (first | refine blk_drewN ?_ _ | refine blk_drew ?_ | refine blk_alloc ?_ _)); refine blk_far ?_ NB118_122.out _; (with_reducible repeat (first | refine blk_drewN ?_ _ | refine blk_drew ?_ | refine blk_alloc ?_ _)); refine blk_far ?_ NB118_122.out _; (with_reducible repeat (first | refine blk_drewN ?_ _ | refine blk_drew ?_ | refine blk_alloc ?_ _)); refine blk_far ?_ NB118_122.out _; (with_reducible repeat (first | refine blk_drewN ?_ _ | refine blk_drew ?_ | refine blk_alloc ?_ _)); exact BK118.out⟩, ⟨by (with_reducible repeat (first | refine blk_drewN ?_ _ | refine blk_drew ?_ | refine blk_alloc ?_ _)); refine blk_put (cs := #[.bool true, .int .u64 t120, .int .i64 0]) ?_ 2 _ rfl; (with_reducible repeat (first | refine blk_drewN ?_ _ | refine blk_drew ?_ | refine blk_alloc ?_ _)); refine blk_put (cs := #[.bool true, .int .u64 0, .int .i64 0]) ?_ 1 _ rfl; (with_reducible repeat (first | refine blk_drewN ?_ _ | refine blk_drew ?_ | refine blk_alloc ?_ _)); refine blk_put (cs := #[.bool false, .int .u64 0, .int .i64 0]) ?_ 0 _ rfl; (with_reducible repeat (first | refine blk_drewN ?_ _ | refine blk_drew ?_ | refine blk_alloc ?_ _)); exact BK122.out⟩, ⟨by repeat (first | (with_reducible first | exact HB.out | apply below_alloc | apply pw_below_drewN | apply below_drew1 | refine below_set ?_ GE117.out | refine below_set ?_ GE118.out | refine below_set ?_ GE122.out) | exact HB.out)⟩⟩
                    · rw [if_neg c27] at H
                      have c27b0 : ((Go.bits .and .u64 t120 (IntKind.u64.wrap ((ji15) - 1))) == 0) = false := beq_eq_false_iff_ne.mpr c27
                      have c27b1 : ((Go.bits .and .u64 t120 (IntKind.u64.wrap ((ji15) - 1))) != 0) = true := bne_iff_ne.mpr c27
                      have H' := Aside0.mk H
                      clear H
                      go_wp2
                      repeat (go_quiet (fail); try go_wp2)
                      (conv in (occs := 1) Value.bool false => rw [show Value.bool false = Value.bool (ji17 == 1) from by rw [c26b0]])
                      go_meet
                      case rel => exact ⟨_, (false), (by first | rfl | (simp; done) | (simp [*]; done)), H', ⟨by have := HJ3.out; have := HK2.out; first | omega | exact Nat.le_refl _⟩, ⟨by (with_reducible repeat (first | refine blk_drewN ?_ _ | refine blk_drew ?_ | refine blk_alloc ?_ _)); refine blk_far ?_ NB117_122.out _; (with_reducible repeat (first | refine blk_drewN ?_ _ | refine blk_drew ?_ | refine blk_alloc ?_ _)); refine blk_far ?_ NB117_122.out _; (with_reducible repeat (first | refine blk_drewN ?_ _ | refine blk_drew ?_ | refine blk_alloc ?_ _)); refine blk_far ?_ NB117_122.out _; (with_reducible repeat (first | refine blk_drewN ?_ _ | refine blk_drew ?_ | refine blk_alloc ?_ _)); exact BK117.out⟩, ⟨by (with_reducible repeat (first | refine blk_drewN ?_ _ | refine blk_drew ?_ | refine blk_alloc ?_ _)); refine blk_far ?_ NB118_122.out _; (with_reducible repeat (first | refine blk_drewN ?_ _ | refine blk_drew ?_ | refine blk_alloc ?_ _)); refine blk_far ?_ NB118_122.out _; (with_reducible repeat (first | refine blk_drewN ?_ _ | refine blk_drew ?_ | refine blk_alloc ?_ _)); refine blk_far ?_ NB118_122.out _; (with_reducible repeat (first | refine blk_drewN ?_ _ | refine blk_drew ?_ | refine blk_alloc ?_ _)); exact BK118.out⟩, ⟨by (with_reducible repeat (first | refine blk_drewN ?_ _ | refine blk_drew ?_ | refine blk_alloc ?_ _)); refine blk_put (cs := #[.bool true, .int .u64 t120, .int .i64 0]) ?_ 2 _ rfl; (with_reducible repeat (first | refine blk_drewN ?_ _ | refine blk_drew ?_ | refine blk_alloc ?_ _)); refine blk_put (cs := #[.bool true, .int .u64 0, .int .i64 0]) ?_ 1 _ rfl; (with_reducible repeat (first | refine blk_drewN ?_ _ | refine blk_drew ?_ | refine blk_alloc ?_ _)); refine blk_put (cs := #[.bool false, .int .u64 0, .int .i64 0]) ?_ 0 _ rfl; (with_reducible repeat (first | refine blk_drewN ?_ _ | refine blk_drew ?_ | refine blk_alloc ?_ _)); exact BK122.out⟩, ⟨by repeat (first | (with_reducible first | exact HB.out | apply below_alloc | apply pw_below_drewN | apply below_drew1 | refine below_set ?_ GE117.out | refine below_set ?_ GE118.out | refine below_set ?_ GE122.out) | exact HB.out)⟩⟩
                case rest =>
                  clear HC18
                  try clear c1
                  try clear c2
                  try clear p2
                  try clear c6
                  try clear p6
                  try clear c7
                  try clear c7b0
                  try clear c8
                  try clear c9
                  try clear c12
                  try clear c14
                  try clear c14b0
                  try clear c14b1
                  try clear c16
                  try clear c16b0
                  try clear c19
                  try clear c23
                  try clear c24
                  try clear c26
                  try clear c26b0
                  try clear c26b1
                  try clear c27
                  try clear c27b0
                  try clear c27b1
                  try clear hcz10_0
                  try clear hcz10_1
                  try clear hcz10_2
                  try clear hcz20_0
                  try clear hcz20_1
                  try clear hcz25_0
                  try clear hcz25_1
                  try clear hcz25_2
                  try clear hfz10_0
                  try clear hfz10_1
                  try clear hfz10_2
                  try clear hfz20_0
                  try clear hfz20_1
                  try clear hfz25_0
                  try clear hfz25_1
                  try clear hfz25_2
                  try clear p2
                  obtain ⟨kq, x52_17, rfl, HA, HJ17, BK117, BK118, BK122, HB⟩ := hcut
                  cases kq with
                  | zero => exact absurd HA.out (by simp [impl_GetVar.j2])
                  | succ kj17 =>
                    have H := HA.out
                    clear HA
                    simp only [impl_GetVar.j2] at H
                    by_cases c28 : x52_17 = true
                    · subst c28
                      have H1 : (some (false, 0, 0)) = some (r1, r2, r3) := by rw [if_pos rfl] at H; exact H
                      clear H
                      have H := H1
                      clear H1
                      simp only [Option.some.injEq, Prod.mk.injEq] at H
                      obtain ⟨rfl, rfl, rfl⟩ := H
                      have hnb29 := NB118_117.out
                      have hnc29 := NB117_118.out
                      have hnb30 := NB118_122.out
                      have hnc30 := NB122_118.out
                      have hcz31_0 : wc.cell? ⟨gb118, 0, none⟩ = some (.bool x119000_2) := (blk_cell BK118.out 0).trans rfl
                      have hcz31_1 : wc.cell? ⟨gb118, 1, none⟩ = some (.int .u64 x119001_2) := (blk_cell BK118.out 1).trans rfl
                      have hcz31_2 : wc.cell? ⟨gb118, 2, none⟩ = some (.int .i64 x119002_2) := (blk_cell BK118.out 2).trans rfl
                      have hfz31_0 := blk_frozen BK118.out 0
                      have hfz31_1 := blk_frozen BK118.out 1
                      have hfz31_2 := blk_frozen BK118.out 2
                      go_wp2
                      repeat (go_quiet (fail); try go_wp2)
                      refine bodyPost_ret (results_cell_row rfl _ _ gb118 62 #[.bool false, .int .u64 0, .int .i64 0] (0, 0) _ rfl (by (with_reducible repeat (first | refine blk_drewN ?_ _ | refine blk_drew ?_ | refine blk_alloc ?_ _)); refine blk_put (cs := #[.bool false, .int .u64 0, .int .i64 x119002_2]) ?_ 2 _ rfl; (with_reducible repeat (first | refine blk_drewN ?_ _ | refine blk_drew ?_ | refine blk_alloc ?_ _)); refine blk_put (cs := #[.bool false, .int .u64 x119001_2, .int .i64 x119002_2]) ?_ 1 _ rfl; (with_reducible repeat (first | refine blk_drewN ?_ _ | refine blk_drew ?_ | refine blk_alloc ?_ _)); refine blk_put (cs := #[.bool x119000_2, .int .u64 x119001_2, .int .i64 x119002_2]) ?_ 0 _ rfl; (with_reducible repeat (first | refine blk_drewN ?_ _ | refine blk_drew ?_ | refine blk_alloc ?_ _)); exact BK118.out) Try.underlying62 rfl (by kernel_rfl)) rfl ?_
                      exact ⟨by first | rfl | (simp [errW_none, errW_some] <;> rfl) | (simp only [← hji13, ← hji15, ← hji17]; first | rfl | (simp [errW_none, errW_some] <;> rfl)) | (simp [*, errW_none, errW_some] <;> rfl), by repeat (first | (with_reducible first | exact HB.out | apply below_alloc | apply pw_below_drewN | apply below_drew1 | refine below_set ?_ GE117.out | refine below_set ?_ GE118.out | refine below_set ?_ GE122.out) | exact HB.out)⟩
                    · replace c28 := Bool.eq_false_iff.mpr c28
                      subst c28
                      have H1 : (if (Go.bits .and .u64 t120 (IntKind.u64.wrap ((ji15) - 1))) = 0 then (impl_GetVar.j3 kj17 t121 a2 x7_2 x8_2 (Go.bits .and .u64 t120 (IntKind.u64.wrap ((ji15) - 1))) ((ji17) == 1) false l0_0 a0_1) else (if x8_2 ≥ 64 then (impl_GetVar.j3 kj17 t121 a2 x7_2 x8_2 (Go.bits .and .u64 t120 (IntKind.u64.wrap ((ji15) - 1))) ((ji17) == 1) true l0_0 a0_1) else (if 0 ≤ x8_2 then (impl_GetVar.j3 kj17 t121 a2 x7_2 x8_2 (Go.bits .and .u64 t120 (IntKind.u64.wrap ((ji15) - 1))) ((ji17) == 1) ((shr .u64 (shl .u64 (Go.bits .and .u64 t120 (IntKind.u64.wrap ((ji15) - 1))) x8_2) x8_2) != (Go.bits .and .u64 t120 (IntKind.u64.wrap ((ji15) - 1)))) l0_0 a0_1) else (none)))) = some (r1, r2, r3) := by rw [if_neg (show ¬ (false = true) by decide)] at H; exact H
                      clear H
                      have H := H1
                      clear H1
                      have HC32 := Aside0.mk H
                      clear H
                      go_upto_region 14 with (fail)
                      repeat (go_quiet (fail); go_upto_region 14 with (fail))
                      go_cut [68] (fun v68 wc => ∃ (kq : Nat) (x68_31 : Bool), v68 = .bool x68_31 ∧ Aside0 (impl_GetVar.j3 kq t121 a2 x7_2 x8_2 (Go.bits .and .u64 t120 (IntKind.u64.wrap ((ji15) - 1))) ((ji17) == 1) x68_31 l0_0 a0_1 = some (r1, r2, r3)) ∧ Aside0 (kq ≤ kj17) ∧ Aside0 (wc.heap[gb117]? = some (.cells #[(.slice A0_0 l0_0.length c0_0), .int .i64 a0_1] 64 (0, 0))) ∧ Aside0 (wc.heap[gb118]? = some (.cells #[.bool x119000_2, .int .u64 x119001_2, .int .i64 x119002_2] 62 (0, 0))) ∧ Aside0 (wc.heap[gb122]? = some (.cells #[.bool true, .int .u64 t120, .int .i64 t121] 62 (0, 0))) ∧ Aside0 (Below w.heap.size w wc))
                      case first =>
                        have H := HC32.out
                        clear HC32
                        by_cases c33 : (Go.bits .and .u64 t120 (IntKind.u64.wrap ((ji15) - 1))) = 0
                        · rw [if_pos c33] at H
                          have c33b0 : ((Go.bits .and .u64 t120 (IntKind.u64.wrap ((ji15) - 1))) == 0) = true := beq_iff_eq.mpr c33
                          have c33b1 : ((Go.bits .and .u64 t120 (IntKind.u64.wrap ((ji15) - 1))) != 0) = false := bne_eq_false_iff_eq.mpr c33
                          clear c33
                          (first | rw [c33b0] | (simp only [i64_w, i32_w]; rw [c33b0]) | skip)
                          have H' := Aside0.mk H
                          clear H
                          go_wp2
                          repeat (go_quiet (fail); try go_wp2)
                          go_meet
                          case rel => exact ⟨_, (false), (by first | rfl | (simp; done) | (simp [*]; done)), H', ⟨by have := HJ3.out; have := HK2.out; have := HJ17.out; first | omega | exact Nat.le_refl _⟩, ⟨by (with_reducible repeat (first | refine blk_drewN ?_ _ | refine blk_drew ?_ | refine blk_alloc ?_ _)); exact BK117.out⟩, ⟨by (with_reducible repeat (first | refine blk_drewN ?_ _ | refine blk_drew ?_ | refine blk_alloc ?_ _)); exact BK118.out⟩, ⟨by (with_reducible repeat (first | refine blk_drewN ?_ _ | refine blk_drew ?_ | refine blk_alloc ?_ _)); exact BK122.out⟩, ⟨by repeat (first | (with_reducible first | exact HB.out | apply below_alloc | apply pw_below_drewN | apply below_drew1 | refine below_set ?_ GE117.out | refine below_set ?_ GE118.out | refine below_set ?_ GE122.out) | exact HB.out)⟩⟩
                        · rw [if_neg c33] at H
                          have c33b0 : ((Go.bits .and .u64 t120 (IntKind.u64.wrap ((ji15) - 1))) == 0) = false := beq_eq_false_iff_ne.mpr c33
                          have c33b1 : ((Go.bits .and .u64 t120 (IntKind.u64.wrap ((ji15) - 1))) != 0) = true := bne_iff_ne.mpr c33
                          (first | rw [c33b0] | (simp only [i64_w, i32_w]; rw [c33b0]) | skip)
                          by_cases c34 : x8_2 ≥ 64
                          · rw [if_pos c34] at H
                            have c34b0 : decide (64 ≤ x8_2) = true := decide_eq_true c34
                            clear c34
                            have H' := Aside0.mk H
                            clear H
                            go_wp2
                            repeat (go_quiet (fail); try go_wp2)
                            go_meet
                            case rel => exact ⟨_, (true), (by first | rfl | (simp; done) | (simp [*]; done)), H', ⟨by have := HJ3.out; have := HK2.out; have := HJ17.out; first | omega | exact Nat.le_refl _⟩, ⟨by (with_reducible repeat (first | refine blk_drewN ?_ _ | refine blk_drew ?_ | refine blk_alloc ?_ _)); exact BK117.out⟩, ⟨by (with_reducible repeat (first | refine blk_drewN ?_ _ | refine blk_drew ?_ | refine blk_alloc ?_ _)); exact BK118.out⟩, ⟨by (with_reducible repeat (first | refine blk_drewN ?_ _ | refine blk_drew ?_ | refine blk_alloc ?_ _)); exact BK122.out⟩, ⟨by repeat (first | (with_reducible first | exact HB.out | apply below_alloc | apply pw_below_drewN | apply below_drew1 | refine below_set ?_ GE117.out | refine below_set ?_ GE118.out | refine below_set ?_ GE122.out) | exact HB.out)⟩⟩
                          · rw [if_neg c34] at H
                            have c34b0 : decide (64 ≤ x8_2) = false := decide_eq_false c34
                            clear c34
                            by_cases c35 : 0 ≤ x8_2
                            · rw [if_pos c35] at H
                              have c35b0 := eq_true c35
                              have c35b1 : decide (0 ≤ x8_2) = true := decide_eq_true c35
                              clear c35
                              obtain ⟨ji36, hji36⟩ : ∃ j_ : Int, (shl .u64 (Go.bits .and .u64 t120 (IntKind.u64.wrap ((ji15) - 1))) x8_2) = j_ := ⟨_, rfl⟩
                              replace H : (impl_GetVar.j3 kj17 t121 a2 x7_2 x8_2 (Go.bits .and .u64 t120 (IntKind.u64.wrap ((ji15) - 1))) ((ji17) == 1) ((shr .u64 (ji36) x8_2) != (Go.bits .and .u64 t120 (IntKind.u64.wrap ((ji15) - 1)))) l0_0 a0_1) = some (r1, r2, r3) := by first | (rw [hji36] at H; exact H) | (simp only [hji36] at H ⊢; exact H)
                              have hji36_ : (IntKind.u64.wrap ((Go.bits .and .u64 t120 (IntKind.u64.wrap ((ji15) - 1))) * 2 ^ min x8_2.toNat 64)) = ji36 := hji36
                              have hji36z : x8_2 ≤ 64 → (IntKind.u64.wrap ((Go.bits .and .u64 t120 (IntKind.u64.wrap ((ji15) - 1))) * 2 ^ x8_2.toNat)) = ji36 := shl_small hji36
                              have c37b0 := eq_true (of_decide_eq_true (by first | (with_reducible assumption) | assumption) : 0 ≤ x8_2)
                              obtain ⟨ji38, hji38⟩ : ∃ j_ : Int, (shr .u64 (ji36) x8_2) = j_ := ⟨_, rfl⟩
                              replace H : (impl_GetVar.j3 kj17 t121 a2 x7_2 x8_2 (Go.bits .and .u64 t120 (IntKind.u64.wrap ((ji15) - 1))) ((ji17) == 1) ((ji38) != (Go.bits .and .u64 t120 (IntKind.u64.wrap ((ji15) - 1)))) l0_0 a0_1) = some (r1, r2, r3) := by first | (rw [hji38] at H; exact H) | (simp only [hji38] at H ⊢; exact H)
                              have hji38_ : ((ji36) / 2 ^ min x8_2.toNat 64) = ji38 := hji38
                              have hji38z : x8_2 ≤ 64 → ((ji36) / 2 ^ x8_2.toNat) = ji38 := shr_small hji38
                              have H' := Aside0.mk H
                              clear H
                              go_wp2
                              repeat (go_quiet (fail); try go_wp2)
                              go_meet
                              case rel => exact ⟨_, (((ji38) != (Go.bits .and .u64 t120 (IntKind.u64.wrap ((ji15) - 1))))), (by first | rfl | (simp; done) | (simp only [← hji15, ← hji38] <;> (first | rfl | simp)) | (simp [*]; done)), H', ⟨by have := HJ3.out; have := HK2.out; have := HJ17.out; first | omega | exact Nat.le_refl _⟩, ⟨by (with_reducible repeat (first | refine blk_drewN ?_ _ | refine blk_drew ?_ | refine blk_alloc ?_ _)); exact BK117.out⟩, ⟨by (with_reducible repeat (first | refine blk_drewN ?_ _ | refine blk_drew ?_ | refine blk_alloc ?_ _)); exact BK118.out⟩, ⟨by (with_reducible repeat (first | refine blk_drewN ?_ _ | refine blk_drew ?_ | refine blk_alloc ?_ _)); exact BK122.out⟩, ⟨by repeat (first | (with_reducible first | exact HB.out | apply below_alloc | apply pw_below_drewN | apply below_drew1 | refine below_set ?_ GE117.out | refine below_set ?_ GE118.out | refine below_set ?_ GE122.out) | exact HB.out)⟩⟩
                            · rw [if_neg c35] at H
                              exact absurd H (by simp)
                      case rest =>
                        clear HC32
                        try clear c1
                        try clear c2
                        try clear p2
                        try clear c3
                        try clear c6
                        try clear p6
                        try clear c7
                        try clear c7b0
                        try clear c8
                        try clear c9
                        try clear c12
                        try clear c14
                        try clear c14b0
                        try clear c14b1
                        try clear c16
                        try clear c16b0
                        try clear c19
                        try clear c23
                        try clear c24
                        try clear c26
                        try clear c26b0
                        try clear c26b1
                        try clear c27
                        try clear c27b0
                        try clear c27b1
                        try clear c28
                        try clear c29
                        try clear c30
                        try clear c33
                        try clear c33b0
                        try clear c33b1
                        try clear c34
                        try clear c34b0
                        try clear c35
                        try clear c35b0
                        try clear c35b1
                        try clear c37
                        try clear c37b0
                        try clear hcz10_0
                        try clear hcz10_1
                        try clear hcz10_2
                        try clear hcz20_0
                        try clear hcz20_1
                        try clear hcz25_0
                        try clear hcz25_1
                        try clear hcz25_2
                        try clear hcz31_0
                        try clear hcz31_1
                        try clear hcz31_2
                        try clear hfz10_0
                        try clear hfz10_1
                        try clear hfz10_2
                        try clear hfz20_0
                        try clear hfz20_1
                        try clear hfz25_0
                        try clear hfz25_1
                        try clear hfz25_2
                        try clear hfz31_0
                        try clear hfz31_1
                        try clear hfz31_2
                        try clear p2
                        try clear p6
                        obtain ⟨kq, x68_31, rfl, HA, HJ31, BK117, BK118, BK122, HB⟩ := hcut
                        cases kq with
                        | zero => exact absurd HA.out (by simp [impl_GetVar.j3])
                        | succ kj31 =>
                          have H := HA.out
                          clear HA
                          simp only [impl_GetVar.j3] at H
                          by_cases c39 : x68_31 = true
                          · subst c39
                            have H1 : (some (false, 0, 0)) = some (r1, r2, r3) := by rw [if_pos rfl] at H; exact H
                            clear H
                            have H := H1
                            clear H1
                            simp only [Option.some.injEq, Prod.mk.injEq] at H
                            obtain ⟨rfl, rfl, rfl⟩ := H
                            have hnb40 := NB118_117.out
                            have hnc40 := NB117_118.out
                            have hnb41 := NB118_122.out
                            have hnc41 := NB122_118.out
                            have hcz42_0 : wc.cell? ⟨gb118, 0, none⟩ = some (.bool x119000_2) := (blk_cell BK118.out 0).trans rfl
                            have hcz42_1 : wc.cell? ⟨gb118, 1, none⟩ = some (.int .u64 x119001_2) := (blk_cell BK118.out 1).trans rfl
                            have hcz42_2 : wc.cell? ⟨gb118, 2, none⟩ = some (.int .i64 x119002_2) := (blk_cell BK118.out 2).trans rfl
                            have hfz42_0 := blk_frozen BK118.out 0
                            have hfz42_1 := blk_frozen BK118.out 1
                            have hfz42_2 := blk_frozen BK118.out 2
                            go_wp2
                            repeat (go_quiet (fail); try go_wp2)
                            refine bodyPost_ret (results_cell_row rfl _ _ gb118 62 #[.bool false, .int .u64 0, .int .i64 0] (0, 0) _ rfl (by (with_reducible repeat (first | refine blk_drewN ?_ _ | refine blk_drew ?_ | refine blk_alloc ?_ _)); refine blk_put (cs := #[.bool false, .int .u64 0, .int .i64 x119002_2]) ?_ 2 _ rfl; (with_reducible repeat (first | refine blk_drewN ?_ _ | refine blk_drew ?_ | refine blk_alloc ?_ _)); refine blk_put (cs := #[.bool false, .int .u64 x119001_2, .int .i64 x119002_2]) ?_ 1 _ rfl; (with_reducible repeat (first | refine blk_drewN ?_ _ | refine blk_drew ?_ | refine blk_alloc ?_ _)); refine blk_put (cs := #[.bool x119000_2, .int .u64 x119001_2, .int .i64 x119002_2]) ?_ 0 _ rfl; (with_reducible repeat (first | refine blk_drewN ?_ _ | refine blk_drew ?_ | refine blk_alloc ?_ _)); exact BK118.out) Try.underlying62 rfl (by kernel_rfl)) rfl ?_
                            exact ⟨by first | rfl | (simp [errW_none, errW_some] <;> rfl) | (simp only [← hji13, ← hji15, ← hji17]; first | rfl | (simp [errW_none, errW_some] <;> rfl)) | (simp [*, errW_none, errW_some] <;> rfl), by repeat (first | (with_reducible first | exact HB.out | apply below_alloc | apply pw_below_drewN | apply below_drew1 | refine below_set ?_ GE117.out | refine below_set ?_ GE118.out | refine below_set ?_ GE122.out) | exact HB.out)⟩
                          · replace c39 := Bool.eq_false_iff.mpr c39
                            subst c39
                            have H1 : (if x8_2 < 64 then (if 0 ≤ x8_2 then (impl_GetVar.j4 kj31 t121 a2 (Go.bits .or .u64 x7_2 (shl .u64 (Go.bits .and .u64 t120 (IntKind.u64.wrap ((ji15) - 1))) x8_2)) x8_2 ((ji17) == 1) l0_0 a0_1) else (none)) else (impl_GetVar.j4 kj31 t121 a2 x7_2 x8_2 ((ji17) == 1) l0_0 a0_1)) = some (r1, r2, r3) := by rw [if_neg (show ¬ (false = true) by decide)] at H; exact H
                            clear H
                            have H := H1
                            clear H1
                            have HC43 := Aside0.mk H
                            clear H
                            go_upto_if 71 with (fail)
                            repeat (go_quiet (fail); go_upto_if 71 with (fail))
                            go_cut [7] (fun v7 wc => ∃ (kq : Nat) (x7_42 : Int), v7 = .int .u64 x7_42 ∧ Aside0 (impl_GetVar.j4 kq t121 a2 x7_42 x8_2 ((ji17) == 1) l0_0 a0_1 = some (r1, r2, r3)) ∧ Aside0 (kq ≤ kj31) ∧ Aside0 (wc.heap[gb117]? = some (.cells #[(.slice A0_0 l0_0.length c0_0), .int .i64 a0_1] 64 (0, 0))) ∧ Aside0 (wc.heap[gb118]? = some (.cells #[.bool x119000_2, .int .u64 x119001_2, .int .i64 x119002_2] 62 (0, 0))) ∧ Aside0 (wc.heap[gb122]? = some (.cells #[.bool true, .int .u64 t120, .int .i64 t121] 62 (0, 0))) ∧ Aside0 (Below w.heap.size w wc))
                            case first =>
                              have H := HC43.out
                              clear HC43
                              by_cases c44 : x8_2 < 64
                              · rw [if_pos c44] at H
                                have c44b0 : decide (x8_2 < 64) = true := decide_eq_true c44
                                clear c44
                                (first | rw [c44b0] | (simp only [i64_w, i32_w]; rw [c44b0]) | skip)
                                by_cases c45 : 0 ≤ x8_2
                                · rw [if_pos c45] at H
                                  have c45b0 := eq_true c45
                                  have c45b1 : decide (0 ≤ x8_2) = true := decide_eq_true c45
                                  clear c45
                                  obtain ⟨ji46, hji46⟩ : ∃ j_ : Int, (shl .u64 (Go.bits .and .u64 t120 (IntKind.u64.wrap ((ji15) - 1))) x8_2) = j_ := ⟨_, rfl⟩
                                  replace H : (impl_GetVar.j4 kj31 t121 a2 (Go.bits .or .u64 x7_2 (ji46)) x8_2 ((ji17) == 1) l0_0 a0_1) = some (r1, r2, r3) := by first | (rw [hji46] at H; exact H) | (simp only [hji46] at H ⊢; exact H)
                                  have hji46_ : (IntKind.u64.wrap ((Go.bits .and .u64 t120 (IntKind.u64.wrap ((ji15) - 1))) * 2 ^ min x8_2.toNat 64)) = ji46 := hji46
                                  have hji46z : x8_2 ≤ 64 → (IntKind.u64.wrap ((Go.bits .and .u64 t120 (IntKind.u64.wrap ((ji15) - 1))) * 2 ^ x8_2.toNat)) = ji46 := shl_small hji46
                                  have H' := Aside0.mk H
                                  clear H
                                  go_wp2
                                  repeat (go_quiet (fail); try go_wp2)
                                  go_meet
                                  case rel => exact ⟨_, (Go.bits .or .u64 x7_2 (ji46)), (by first | rfl | (simp; done) | (simp only [← hji46] <;> (first | rfl | simp)) | (simp [*]; done)), H', ⟨by have := HJ3.out; have := HK2.out; have := HJ17.out; have := HJ31.out; first | omega | exact Nat.le_refl _⟩, ⟨by (with_reducible repeat (first | refine blk_drewN ?_ _ | refine blk_drew ?_ | refine blk_alloc ?_ _)); exact BK117.out⟩, ⟨by (with_reducible repeat (first | refine blk_drewN ?_ _ | refine blk_drew ?_ | refine blk_alloc ?_ _)); exact BK118.out⟩, ⟨by (with_reducible repeat (first | refine blk_drewN ?_ _ | refine blk_drew ?_ | refine blk_alloc ?_ _)); exact BK122.out⟩, ⟨by repeat (first | (with_reducible first | exact HB.out | apply below_alloc | apply pw_below_drewN | apply below_drew1 | refine below_set ?_ GE117.out | refine below_set ?_ GE118.out | refine below_set ?_ GE122.out) | exact HB.out)⟩⟩
                                · rw [if_neg c45] at H
                                  exact absurd H (by simp)
                              · rw [if_neg c44] at H
                                have c44b0 : decide (x8_2 < 64) = false := decide_eq_false c44
                                clear c44
                                (first | rw [c44b0] | (simp only [i64_w, i32_w]; rw [c44b0]) | skip)
                                have H' := Aside0.mk H
                                clear H
                                go_wp2
                                repeat (go_quiet (fail); try go_wp2)
                                go_meet
                                case rel => exact ⟨_, (x7_2), (by first | rfl | (simp; done) | (simp [*]; done)), H', ⟨by have := HJ3.out; have := HK2.out; have := HJ17.out; have := HJ31.out; first | omega | exact Nat.le_refl _⟩, ⟨by (with_reducible repeat (first | refine blk_drewN ?_ _ | refine blk_drew ?_ | refine blk_alloc ?_ _)); exact BK117.out⟩, ⟨by (with_reducible repeat (first | refine blk_drewN ?_ _ | refine blk_drew ?_ | refine blk_alloc ?_ _)); exact BK118.out⟩, ⟨by (with_reducible repeat (first | refine blk_drewN ?_ _ | refine blk_drew ?_ | refine blk_alloc ?_ _)); exact BK122.out⟩, ⟨by repeat (first | (with_reducible first | exact HB.out | apply below_alloc | apply pw_below_drewN | apply below_drew1 | refine below_set ?_ GE117.out | refine below_set ?_ GE118.out | refine below_set ?_ GE122.out) | exact HB.out)⟩⟩
                            case rest =>
                              clear HC43
                              try clear c1
                              try clear c2
                              try clear p2
                              try clear c3
                              try clear c4
                              try clear c6
                              try clear p6
                              try clear c7
                              try clear c7b0
                              try clear c8
                              try clear c9
                              try clear c12
                              try clear c14
                              try clear c14b0
                              try clear c14b1
                              try clear c16
                              try clear c16b0
                              try clear c19
                              try clear c23
                              try clear c24
                              try clear c26
                              try clear c26b0
                              try clear c26b1
                              try clear c27
                              try clear c27b0
                              try clear c27b1
                              try clear c28
                              try clear c29
                              try clear c30
                              try clear c33
                              try clear c33b0
                              try clear c33b1
                              try clear c34
                              try clear c34b0
                              try clear c35
                              try clear c35b0
                              try clear c35b1
                              try clear c37
                              try clear c37b0
                              try clear c39
                              try clear c40
                              try clear c41
                              try clear c44
                              try clear c44b0
                              try clear c45
                              try clear c45b0
                              try clear c45b1
                              try clear hcz10_0
                              try clear hcz10_1
                              try clear hcz10_2
                              try clear hcz20_0
                              try clear hcz20_1
                              try clear hcz25_0
                              try clear hcz25_1
                              try clear hcz25_2
                              try clear hcz31_0
                              try clear hcz31_1
                              try clear hcz31_2
                              try clear hcz42_0
                              try clear hcz42_1
                              try clear hcz42_2
                              try clear hfz10_0
                              try clear hfz10_1
                              try clear hfz10_2
                              try clear hfz20_0
                              try clear hfz20_1
                              try clear hfz25_0
                              try clear hfz25_1
                              try clear hfz25_2
                              try clear hfz31_0
                              try clear hfz31_1
                              try clear hfz31_2
                              try clear hfz42_0
                              try clear hfz42_1
                              try clear hfz42_2
                              try clear p2
                              try clear p6
                              obtain ⟨kq, x7_42, rfl, HA, HJ42, BK117, BK118, BK122, HB⟩ := hcut
                              cases kq with
                              | zero => exact absurd HA.out (by simp [impl_GetVar.j4])
                              | succ kj42 =>
                                have H := HA.out
                                clear HA
                                simp only [impl_GetVar.j4] at H
                                by_cases c47 : ((ji17) == 1) = true
                                · rw [if_pos c47] at H
                                  have c47b0 : ((ji17) == 1) = true := c47
                                  (try (have c47b1 : decide ((ji17) = 1) = true := by simpa using c47))
                                  (try (have c47b2 : ((ji17) == 1) = true := by simpa using c47))
                                  clear c47
                                  by_cases c48 : (wrap64 (x8_2 + (wrap64 (a2 - 1)))) > 200
                                  · rw [if_pos c48] at H
                                    have c48b0 : decide (200 < (wrap64 (x8_2 + (wrap64 (a2 - 1))))) = true := decide_eq_true c48
                                    rw [hji13] at c48b0
                                    clear c48
                                    simp only [Option.some.injEq, Prod.mk.injEq] at H
                                    obtain ⟨rfl, rfl, rfl⟩ := H
                                    have hnb49 := NB118_117.out
                                    have hnc49 := NB117_118.out
                                    have hnb50 := NB118_122.out
                                    have hnc50 := NB122_118.out
                                    have hcz51_0 : wc.cell? ⟨gb118, 0, none⟩ = some (.bool x119000_2) := (blk_cell BK118.out 0).trans rfl
                                    have hcz51_1 : wc.cell? ⟨gb118, 1, none⟩ = some (.int .u64 x119001_2) := (blk_cell BK118.out 1).trans rfl
                                    have hcz51_2 : wc.cell? ⟨gb118, 2, none⟩ = some (.int .i64 x119002_2) := (blk_cell BK118.out 2).trans rfl
                                    have hfz51_0 := blk_frozen BK118.out 0
                                    have hfz51_1 := blk_frozen BK118.out 1
                                    have hfz51_2 := blk_frozen BK118.out 2
                                    go_wp2
                                    repeat (go_quiet (fail); try go_wp2)
                                    refine bodyPost_ret (results_cell_row rfl _ _ gb118 62 #[.bool false, .int .u64 0, .int .i64 0] (0, 0) _ rfl (by (with_reducible repeat (first | refine blk_drewN ?_ _ | refine blk_drew ?_ | refine blk_alloc ?_ _)); refine blk_put (cs := #[.bool false, .int .u64 0, .int .i64 x119002_2]) ?_ 2 _ rfl; (with_reducible repeat (first | refine blk_drewN ?_ _ | refine blk_drew ?_ | refine blk_alloc ?_ _)); refine blk_put (cs := #[.bool false, .int .u64 x119001_2, .int .i64 x119002_2]) ?_ 1 _ rfl; (with_reducible repeat (first | refine blk_drewN ?_ _ | refine blk_drew ?_ | refine blk_alloc ?_ _)); refine blk_put (cs := #[.bool x119000_2, .int .u64 x119001_2, .int .i64 x119002_2]) ?_ 0 _ rfl; (with_reducible repeat (first | refine blk_drewN ?_ _ | refine blk_drew ?_ | refine blk_alloc ?_ _)); exact BK118.out) Try.underlying62 rfl (by kernel_rfl)) rfl ?_
                                    exact ⟨by first | rfl | (simp [errW_none, errW_some] <;> rfl) | (simp only [← hji13, ← hji15, ← hji17]; first | rfl | (simp [errW_none, errW_some] <;> rfl)) | (simp [*, errW_none, errW_some] <;> rfl), by repeat (first | (with_reducible first | exact HB.out | apply below_alloc | apply pw_below_drewN | apply below_drew1 | refine below_set ?_ GE117.out | refine below_set ?_ GE118.out | refine below_set ?_ GE122.out) | exact HB.out)⟩
                                  · rw [if_neg c48] at H
                                    have c48b0 : decide (200 < (wrap64 (x8_2 + (wrap64 (a2 - 1))))) = false := decide_eq_false c48
                                    rw [hji13] at c48b0
                                    clear c48
                                    have H' := Aside0.mk H
                                    clear H
                                    go_wp2
                                    repeat (go_quiet (fail); try go_wp2)
                                    go_roundg kj42
                                    case measure => have := HJ3.out; have := HK2.out; have := HJ17.out; have := HJ31.out; have := HJ42.out; omega
                                    case rel => exact ⟨(t121), (x7_42), (wrap64 (x8_2 + (wrap64 (a2 - 1)))), (false), (x119000_2), (x119001_2), (x119002_2), (by first | rfl | (simp; done) | (simp [*]; done)), (by first | rfl | (simp; done) | (simp [*]; done)), (by first | rfl | (simp; done) | (simp [*]; done)), (by first | rfl | (simp; done) | (simp [*]; done)), H', ⟨by have := HJ3.out; have := HK2.out; have := HJ17.out; have := HJ31.out; have := HJ42.out; omega⟩, ⟨by (with_reducible repeat (first | refine blk_drewN ?_ _ | refine blk_drew ?_ | refine blk_alloc ?_ _)); exact BK117.out⟩, ⟨by (with_reducible repeat (first | refine blk_drewN ?_ _ | refine blk_drew ?_ | refine blk_alloc ?_ _)); exact BK118.out⟩, ⟨by repeat (first | (with_reducible first | exact HB.out | apply below_alloc | apply pw_below_drewN | apply below_drew1 | refine below_set ?_ GE117.out | refine below_set ?_ GE118.out | refine below_set ?_ GE122.out) | exact HB.out)⟩⟩
                                · rw [if_neg c47] at H
                                  have c47b0 : ((ji17) == 1) = false := by simpa using c47
                                  (try (have c47b1 : decide ((ji17) = 1) = false := by simpa using c47))
                                  (try (have c47b2 : ((ji17) == 1) = false := by simpa using c47))
                                  (try (have c47b3 : ¬ ((ji17) = 1) := by simpa using c47))
                                  clear c47
                                  simp only [Option.some.injEq, Prod.mk.injEq] at H
                                  obtain ⟨rfl, rfl, rfl⟩ := H
                                  have hnb52 := NB118_117.out
                                  have hnc52 := NB117_118.out
                                  have hnb53 := NB118_122.out
                                  have hnc53 := NB122_118.out
                                  have hcz54_0 : wc.cell? ⟨gb118, 0, none⟩ = some (.bool x119000_2) := (blk_cell BK118.out 0).trans rfl
                                  have hcz54_1 : wc.cell? ⟨gb118, 1, none⟩ = some (.int .u64 x119001_2) := (blk_cell BK118.out 1).trans rfl
                                  have hcz54_2 : wc.cell? ⟨gb118, 2, none⟩ = some (.int .i64 x119002_2) := (blk_cell BK118.out 2).trans rfl
                                  have hfz54_0 := blk_frozen BK118.out 0
                                  have hfz54_1 := blk_frozen BK118.out 1
                                  have hfz54_2 := blk_frozen BK118.out 2
                                  go_wp2
                                  repeat (go_quiet (fail); try go_wp2)
                                  refine bodyPost_ret (results_cell_row rfl _ _ gb118 62 #[.bool true, .int .u64 x7_42, .int .i64 t121] (0, 0) _ rfl (by (with_reducible repeat (first | refine blk_drewN ?_ _ | refine blk_drew ?_ | refine blk_alloc ?_ _)); refine blk_put (cs := #[.bool true, .int .u64 x7_42, .int .i64 x119002_2]) ?_ 2 _ rfl; (with_reducible repeat (first | refine blk_drewN ?_ _ | refine blk_drew ?_ | refine blk_alloc ?_ _)); refine blk_put (cs := #[.bool true, .int .u64 x119001_2, .int .i64 x119002_2]) ?_ 1 _ rfl; (with_reducible repeat (first | refine blk_drewN ?_ _ | refine blk_drew ?_ | refine blk_alloc ?_ _)); refine blk_put (cs := #[.bool x119000_2, .int .u64 x119001_2, .int .i64 x119002_2]) ?_ 0 _ rfl; (with_reducible repeat (first | refine blk_drewN ?_ _ | refine blk_drew ?_ | refine blk_alloc ?_ _)); exact BK118.out) Try.underlying62 rfl (by kernel_rfl)) rfl ?_
                                  exact ⟨by first | rfl | (simp [errW_none, errW_some] <;> rfl) | (simp only [← hji13, ← hji15, ← hji17]; first | rfl | (simp [errW_none, errW_some] <;> rfl)) | (simp [*, errW_none, errW_some] <;> rfl), by repeat (first | (with_reducible first | exact HB.out | apply below_alloc | apply pw_below_drewN | apply below_drew1 | refine below_set ?_ GE117.out | refine below_set ?_ GE118.out | refine below_set ?_ GE122.out) | exact HB.out)⟩
              · rw [if_neg c14] at H
                exact absurd H (by simp)
            · replace c12 := Bool.eq_false_iff.mpr c12
              subst c12
              have H1 : (some (false, 0, 0)) = some (r1, r2, r3) := by rw [if_neg (show ¬ (false = true) by decide)] at H; exact H
              clear H
              have H := H1
              clear H1
              simp only [Option.some.injEq, Prod.mk.injEq] at H
              obtain ⟨rfl, rfl, rfl⟩ := H
              have hnb55 := NB117_118.out
              have hnc55 := NB118_117.out
              have hcz56_0 : wr.cell? ⟨gb117, 0, none⟩ = some (.slice A0_0 l0_0.length c0_0) := (blk_cell BK117.out 0).trans rfl
              have hcz56_1 : wr.cell? ⟨gb117, 1, none⟩ = some (.int .i64 a0_1) := (blk_cell BK117.out 1).trans rfl
              have hfz56_0 := blk_frozen BK117.out 0
              have hfz56_1 := blk_frozen BK117.out 1
              go_wp2_with (first | (go_at_call 39; (with_reducible refine (impl_GetBits.calls k2 _ _ l0_0 a0_1 x1_2 a2 false t120 t121 _ ?side1 ?side2 A11.out).mono ?_); (case side1 => repeat (first | exact (Kd.C_below HR0_0.out HB.out) | (with_reducible refine Kd.C_alloc ?_ _) | (with_reducible refine Kd.C_drewN ?_ _) | (with_reducible refine Kd.C_drew ?_))); (case side2 => exact HC0_0.out); rintro e w57 ⟨rfl, hb⟩; have n0_ := Aside0.mk (blk_below (g := gb117) (o := .cells #[.slice A0_0 l0_0.length c0_0, .int .i64 a0_1] 64 (0, 0)) (by (with_reducible repeat (first | refine blk_drewN ?_ _ | refine blk_drew ?_ | refine blk_alloc ?_ _)); exact BK117.out) hb); have n1_ := Aside0.mk (blk_below (g := gb118) (o := .cells #[.bool x119000_2, .int .u64 x119001_2, .int .i64 x119002_2] 62 (0, 0)) (by (with_reducible repeat (first | refine blk_drewN ?_ _ | refine blk_drew ?_ | refine blk_alloc ?_ _)); exact BK118.out) hb); have n2_ := Aside0.mk (below_step (by repeat (first | (with_reducible first | exact HB.out | apply below_alloc | apply pw_below_drewN | apply below_drew1 | refine below_set ?_ GE117.out | refine below_set ?_ GE118.out) | exact HB.out)) hb); clear BK117; clear BK118; clear HB; have BK117 := n0_; have BK118 := n1_; have HB := n2_; clear n0_ n1_ n2_; (try clear hb); (try clear hb2); (try clear hk); (try clear hi)) | ((with_reducible refine gate_dst (N := 10) rfl ?_); refine box_event ?hg (N := 10) ?hd (cs := #[.bool false, .int .u64 0, .int .i64 0]) (t := 62) ?hr ?_; (case hd => rfl); (case hg => rfl); (case hr => first | (go_simp; done) | (go_simp; rfl)); intro gb122 hg w58 hbox hb; have n0_ := Aside0.mk (blk_below (g := gb117) (o := .cells #[.slice A0_0 l0_0.length c0_0, .int .i64 a0_1] 64 (0, 0)) (by (with_reducible repeat (first | refine blk_drewN ?_ _ | refine blk_drew ?_ | refine blk_alloc ?_ _)); exact BK117.out) hb); have n1_ := Aside0.mk (blk_below (g := gb118) (o := .cells #[.bool x119000_2, .int .u64 x119001_2, .int .i64 x119002_2] 62 (0, 0)) (by (with_reducible repeat (first | refine blk_drewN ?_ _ | refine blk_drew ?_ | refine blk_alloc ?_ _)); exact BK118.out) hb); have n2_ := Aside0.mk (below_step (by repeat (first | (with_reducible first | exact HB.out | apply below_alloc | apply pw_below_drewN | apply below_drew1 | refine below_set ?_ GE117.out | refine below_set ?_ GE118.out) | exact HB.out)) hb); have n3_ := Aside0.mk (hbox); have n4_ := Aside0.mk ((by rw [hg]; exact (below_size (by repeat (first | (with_reducible first | exact HB.out | apply below_alloc | apply pw_below_drewN | apply below_drew1 | refine below_set ?_ GE117.out | refine below_set ?_ GE118.out) | exact HB.out))) : w.heap.size ≤ gb122)); have n5_ := Aside0.mk ((by rw [hg]; exact (below_size (by repeat (first | (with_reducible first | exact HB.out | apply below_alloc | apply pw_below_drewN | apply below_drew1 | refine below_set ?_ GE117.out | refine below_set ?_ GE118.out) | exact HB.out))) : w.heap.size ≤ gb122)); have n6_ := Aside0.mk ((by rw [hg]; exact Nat.ne_of_lt (blk_lt (g := gb117) (o := .cells #[.slice A0_0 l0_0.length c0_0, .int .i64 a0_1] 64 (0, 0)) (by (with_reducible repeat (first | refine blk_drewN ?_ _ | refine blk_drew ?_ | refine blk_alloc ?_ _)); exact BK117.out)) : gb117 ≠ gb122)); have n7_ := Aside0.mk ((by rw [hg]; exact Nat.ne_of_gt (blk_lt (g := gb117) (o := .cells #[.slice A0_0 l0_0.length c0_0, .int .i64 a0_1] 64 (0, 0)) (by (with_reducible repeat (first | refine blk_drewN ?_ _ | refine blk_drew ?_ | refine blk_alloc ?_ _)); exact BK117.out)) : gb122 ≠ gb117)); have n8_ := Aside0.mk ((by rw [hg]; exact Nat.ne_of_lt (blk_lt (g := gb118) (o := .cells #[.bool x119000_2, .int .u64 x119001_2, .int .i64 x119002_2] 62 (0, 0)) (by (with_reducible repeat (first | refine blk_drewN ?_ _ | refine blk_drew ?_ | refine blk_alloc ?_ _)); exact BK118.out)) : gb118 ≠ gb122)); have n9_ := Aside0.mk ((by rw [hg]; exact Nat.ne_of_gt (blk_lt (g := gb118) (o := .cells #[.bool x119000_2, .int .u64 x119001_2, .int .i64 x119002_2] 62 (0, 0)) (by (with_reducible repeat (first | refine blk_drewN ?_ _ | refine blk_drew ?_ | refine blk_alloc ?_ _)); exact BK118.out)) : gb122 ≠ gb118)); clear BK117; clear BK118; clear HB; have BK117 := n0_; have BK118 := n1_; have HB := n2_; have BK122 := n3_; have GW122 := n4_; have GE122 := n5_; have NB117_122 := n6_; have NB122_117 := n7_; have NB118_122 := n8_; have NB122_118 := n9_; clear n0_ n1_ n2_ n3_ n4_ n5_ n6_ n7_ n8_ n9_; clear hb hbox hg; have hnb59 := NB122_117.out; have hnc59 := NB117_122.out; have hnb60 := NB122_118.out; have hnc60 := NB118_122.out; have hcz61_0 : w58.cell? ⟨gb122, 0, none⟩ = some (.bool false) := (blk_cell BK122.out 0).trans rfl; have hcz61_1 : w58.cell? ⟨gb122, 1, none⟩ = some (.int .u64 0) := (blk_cell BK122.out 1).trans rfl; have hcz61_2 : w58.cell? ⟨gb122, 2, none⟩ = some (.int .i64 0) := (blk_cell BK122.out 2).trans rfl; have hfz61_0 := blk_frozen BK122.out 0; have hfz61_1 := blk_frozen BK122.out 1; have hfz61_2 := blk_frozen BK122.out 2; have hcz62_0 : w58.cell? ⟨gb118, 0, none⟩ = some (.bool x119000_2) := (blk_cell BK118.out 0).trans rfl; have hcz62_1 : w58.cell? ⟨gb118, 1, none⟩ = some (.int .u64 x119001_2) := (blk_cell BK118.out 1).trans rfl; have hcz62_2 : w58.cell? ⟨gb118, 2, none⟩ = some (.int .i64 x119002_2) := (blk_cell BK118.out 2).trans rfl; have hfz62_0 := blk_frozen BK118.out 0; have hfz62_1 := blk_frozen BK118.out 1; have hfz62_2 := blk_frozen BK118.out 2))
              repeat (go_quiet (first | (go_at_call 39; (with_reducible refine (impl_GetBits.calls k2 _ _ l0_0 a0_1 x1_2 a2 false t120 t121 _ ?side1 ?side2 A11.out).mono ?_); (case side1 => repeat (first | exact (Kd.C_below HR0_0.out HB.out) | (with_reducible refine Kd.C_alloc ?_ _) | (with_reducible refine Kd.C_drewN ?_ _) | (with_reducible refine Kd.C_drew ?_))); (case side2 => exact HC0_0.out); rintro e w57 ⟨rfl, hb⟩; have n0_ := Aside0.mk (blk_below (g := gb117) (o := .cells #[.slice A0_0 l0_0.length c0_0, .int .i64 a0_1] 64 (0, 0)) (by (with_reducible repeat (first | refine blk_drewN ?_ _ | refine blk_drew ?_ | refine blk_alloc ?_ _)); exact BK117.out) hb); have n1_ := Aside0.mk (blk_below (g := gb118) (o := .cells #[.bool x119000_2, .int .u64 x119001_2, .int .i64 x119002_2] 62 (0, 0)) (by (with_reducible repeat (first | refine blk_drewN ?_ _ | refine blk_drew ?_ | refine blk_alloc ?_ _)); exact BK118.out) hb); have n2_ := Aside0.mk (below_step (by repeat (first | (with_reducible first | exact HB.out | apply below_alloc | apply pw_below_drewN | apply below_drew1 | refine below_set ?_ GE117.out | refine below_set ?_ GE118.out) | exact HB.out)) hb); clear BK117; clear BK118; clear HB; have BK117 := n0_; have BK118 := n1_; have HB := n2_; clear n0_ n1_ n2_; (try clear hb); (try clear hb2); (try clear hk); (try clear hi)) | ((with_reducible refine gate_dst (N := 10) rfl ?_); refine box_event ?hg (N := 10) ?hd (cs := #[.bool false, .int .u64 0, .int .i64 0]) (t := 62) ?hr ?_; (case hd => rfl); (case hg => rfl); (case hr => first | (go_simp; done) | (go_simp; rfl)); intro gb122 hg w58 hbox hb; have n0_ := Aside0.mk (blk_below (g := gb117) (o := .cells #[.slice A0_0 l0_0.length c0_0, .int .i64 a0_1] 64 (0, 0)) (by (with_reducible repeat (first | refine blk_drewN ?_ _ | refine blk_drew ?_ | refine blk_alloc ?_ _)); exact BK117.out) hb); have n1_ := Aside0.mk (blk_below (g := gb118) (o := .cells #[.bool x119000_2, .int .u64 x119001_2, .int .i64 x119002_2] 62 (0, 0)) (by (with_reducible repeat (first | refine blk_drewN ?_ _ | refine blk_drew ?_ | refine blk_alloc ?_ _)); exact BK118.out) hb); have n2_ := Aside0.mk (below_step (by repeat (first | (with_reducible first | exact HB.out | apply below_alloc | apply pw_below_drewN | apply below_drew1 | refine below_set ?_ GE117.out | refine below_set ?_ GE118.out) | exact HB.out)) hb); have n3_ := Aside0.mk (hbox); have n4_ := Aside0.mk ((by rw [hg]; exact (below_size (by repeat (first | (with_reducible first | exact HB.out | apply below_alloc | apply pw_below_drewN | apply below_drew1 | refine below_set ?_ GE117.out | refine below_set ?_ GE118.out) | exact HB.out))) : w.heap.size ≤ gb122)); have n5_ := Aside0.mk ((by rw [hg]; exact (below_size (by repeat (first | (with_reducible first | exact HB.out | apply below_alloc | apply pw_below_drewN | apply below_drew1 | refine below_set ?_ GE117.out | refine below_set ?_ GE118.out) | exact HB.out))) : w.heap.size ≤ gb122)); have n6_ := Aside0.mk ((by rw [hg]; exact Nat.ne_of_lt (blk_lt (g := gb117) (o := .cells #[.slice A0_0 l0_0.length c0_0, .int .i64 a0_1] 64 (0, 0)) (by (with_reducible repeat (first | refine blk_drewN ?_ _ | refine blk_drew ?_ | refine blk_alloc ?_ _)); exact BK117.out)) : gb117 ≠ gb122)); have n7_ := Aside0.mk ((by rw [hg]; exact Nat.ne_of_gt (blk_lt (g := gb117) (o := .cells #[.slice A0_0 l0_0.length c0_0, .int .i64 a0_1] 64 (0, 0)) (by (with_reducible repeat (first | refine blk_drewN ?_ _ | refine blk_drew ?_ | refine blk_alloc ?_ _)); exact BK117.out)) : gb122 ≠ gb117)); have n8_ := Aside0.mk ((by rw [hg]; exact Nat.ne_of_lt (blk_lt (g := gb118) (o := .cells #[.bool x119000_2, .int .u64 x119001_2, .int .i64 x119002_2] 62 (0, 0)) (by (with_reducible repeat (first | refine blk_drewN ?_ _ | refine blk_drew ?_ | refine blk_alloc ?_ _)); exact BK118.out)) : gb118 ≠ gb122)); have n9_ := Aside0.mk ((by rw [hg]; exact Nat.ne_of_gt (blk_lt (g := gb118) (o := .cells #[.bool x119000_2, .int .u64 x119001_2, .int .i64 x119002_2] 62 (0, 0)) (by (with_reducible repeat (first | refine blk_drewN ?_ _ | refine blk_drew ?_ | refine blk_alloc ?_ _)); exact BK118.out)) : gb122 ≠ gb118)); clear BK117; clear BK118; clear HB; have BK117 := n0_; have BK118 := n1_; have HB := n2_; have BK122 := n3_; have GW122 := n4_; have GE122 := n5_; have NB117_122 := n6_; have NB122_117 := n7_; have NB118_122 := n8_; have NB122_118 := n9_; clear n0_ n1_ n2_ n3_ n4_ n5_ n6_ n7_ n8_ n9_; clear hb hbox hg; have hnb59 := NB122_117.out; have hnc59 := NB117_122.out; have hnb60 := NB122_118.out; have hnc60 := NB118_122.out; have hcz61_0 : w58.cell? ⟨gb122, 0, none⟩ = some (.bool false) := (blk_cell BK122.out 0).trans rfl; have hcz61_1 : w58.cell? ⟨gb122, 1, none⟩ = some (.int .u64 0) := (blk_cell BK122.out 1).trans rfl; have hcz61_2 : w58.cell? ⟨gb122, 2, none⟩ = some (.int .i64 0) := (blk_cell BK122.out 2).trans rfl; have hfz61_0 := blk_frozen BK122.out 0; have hfz61_1 := blk_frozen BK122.out 1; have hfz61_2 := blk_frozen BK122.out 2; have hcz62_0 : w58.cell? ⟨gb118, 0, none⟩ = some (.bool x119000_2) := (blk_cell BK118.out 0).trans rfl; have hcz62_1 : w58.cell? ⟨gb118, 1, none⟩ = some (.int .u64 x119001_2) := (blk_cell BK118.out 1).trans rfl; have hcz62_2 : w58.cell? ⟨gb118, 2, none⟩ = some (.int .i64 x119002_2) := (blk_cell BK118.out 2).trans rfl; have hfz62_0 := blk_frozen BK118.out 0; have hfz62_1 := blk_frozen BK118.out 1; have hfz62_2 := blk_frozen BK118.out 2)); try go_wp2_with (first | (go_at_call 39; (with_reducible refine (impl_GetBits.calls k2 _ _ l0_0 a0_1 x1_2 a2 false t120 t121 _ ?side1 ?side2 A11.out).mono ?_); (case side1 => repeat (first | exact (Kd.C_below HR0_0.out HB.out) | (with_reducible refine Kd.C_alloc ?_ _) | (with_reducible refine Kd.C_drewN ?_ _) | (with_reducible refine Kd.C_drew ?_))); (case side2 => exact HC0_0.out); rintro e w57 ⟨rfl, hb⟩; have n0_ := Aside0.mk (blk_below (g := gb117) (o := .cells #[.slice A0_0 l0_0.length c0_0, .int .i64 a0_1] 64 (0, 0)) (by (with_reducible repeat (first | refine blk_drewN ?_ _ | refine blk_drew ?_ | refine blk_alloc ?_ _)); exact BK117.out) hb); have n1_ := Aside0.mk (blk_below (g := gb118) (o := .cells #[.bool x119000_2, .int .u64 x119001_2, .int .i64 x119002_2] 62 (0, 0)) (by (with_reducible repeat (first | refine blk_drewN ?_ _ | refine blk_drew ?_ | refine blk_alloc ?_ _)); exact BK118.out) hb); have n2_ := Aside0.mk (below_step (by repeat (first | (with_reducible first | exact HB.out | apply below_alloc | apply pw_below_drewN | apply below_drew1 | refine below_set ?_ GE117.out | refine below_set ?_ GE118.out) | exact HB.out)) hb); clear BK117; clear BK118; clear HB; have BK117 := n0_; have BK118 := n1_; have HB := n2_; clear n0_ n1_ n2_; (try clear hb); (try clear hb2); (try clear hk); (try clear hi)) | ((with_reducible refine gate_dst (N := 10) rfl ?_); refine box_event ?hg (N := 10) ?hd (cs := #[.bool false, .int .u64 0, .int .i64 0]) (t := 62) ?hr ?_; (case hd => rfl); (case hg => rfl); (case hr => first | (go_simp; done) | (go_simp; rfl)); intro gb122 hg w58 hbox hb; have n0_ := Aside0.mk (blk_below (g := gb117) (o := .cells #[.slice A0_0 l0_0.length c0_0, .int .i64 a0_1] 64 (0, 0)) (by (with_reducible repeat (first | refine blk_drewN ?_ _ | refine blk_drew ?_ | refine blk_alloc ?_ _)); exact BK117.out) hb); have n1_ := Aside0.mk (blk_below (g := gb118) (o := .cells #[.bool x119000_2, .int .u64 x119001_2, .int .i64 x119002_2] 62 (0, 0)) (by (with_reducible repeat (first | refine blk_drewN ?_ _ | refine blk_drew ?_ | refine blk_alloc ?_ _)); exact BK118.out) hb); have n2_ := Aside0.mk (below_step (by repeat (first | (with_reducible first | exact HB.out | apply below_alloc | apply pw_below_drewN | apply below_drew1 | refine below_set ?_ GE117.out | refine below_set ?_ GE118.out) | exact HB.out)) hb); have n3_ := Aside0.mk (hbox); have n4_ := Aside0.mk ((by rw [hg]; exact (below_size (by repeat (first | (with_reducible first | exact HB.out | apply below_alloc | apply pw_below_drewN | apply below_drew1 | refine below_set ?_ GE117.out | refine below_set ?_ GE118.out) | exact HB.out))) : w.heap.size ≤ gb122)); have n5_ := Aside0.mk ((by rw [hg]; exact (below_size (by repeat (first | (with_reducible first | exact HB.out | apply below_alloc | apply pw_below_drewN | apply below_drew1 | refine below_set ?_ GE117.out | refine below_set ?_ GE118.out) | exact HB.out))) : w.heap.size ≤ gb122)); have n6_ := Aside0.mk ((by rw [hg]; exact Nat.ne_of_lt (blk_lt (g := gb117) (o := .cells #[.slice A0_0 l0_0.length c0_0, .int .i64 a0_1] 64 (0, 0)) (by (with_reducible repeat (first | refine blk_drewN ?_ _ | refine blk_drew ?_ | refine blk_alloc ?_ _)); exact BK117.out)) : gb117 ≠ gb122)); have n7_ := Aside0.mk ((by rw [hg]; exact Nat.ne_of_gt (blk_lt (g := gb117) (o := .cells #[.slice A0_0 l0_0.length c0_0, .int .i64 a0_1] 64 (0, 0)) (by (with_reducible repeat (first | refine blk_drewN ?_ _ | refine blk_drew ?_ | refine blk_alloc ?_ _)); exact BK117.out)) : gb122 ≠ gb117)); have n8_ := Aside0.mk ((by rw [hg]; exact Nat.ne_of_lt (blk_lt (g := gb118) (o := .cells #[.bool x119000_2, .int .u64 x119001_2, .int .i64 x119002_2] 62 (0, 0)) (by (with_reducible repeat (first | refine blk_drewN ?_ _ | refine blk_drew ?_ | refine blk_alloc ?_ _)); exact BK118.out)) : gb118 ≠ gb122)); have n9_ := Aside0.mk ((by rw [hg]; exact Nat.ne_of_gt (blk_lt (g := gb118) (o := .cells #[.bool x119000_2, .int .u64 x119001_2, .int .i64 x119002_2] 62 (0, 0)) (by (with_reducible repeat (first | refine blk_drewN ?_ _ | refine blk_drew ?_ | refine blk_alloc ?_ _)); exact BK118.out)) : gb122 ≠ gb118)); clear BK117; clear BK118; clear HB; have BK117 := n0_; have BK118 := n1_; have HB := n2_; have BK122 := n3_; have GW122 := n4_; have GE122 := n5_; have NB117_122 := n6_; have NB122_117 := n7_; have NB118_122 := n8_; have NB122_118 := n9_; clear n0_ n1_ n2_ n3_ n4_ n5_ n6_ n7_ n8_ n9_; clear hb hbox hg; have hnb59 := NB122_117.out; have hnc59 := NB117_122.out; have hnb60 := NB122_118.out; have hnc60 := NB118_122.out; have hcz61_0 : w58.cell? ⟨gb122, 0, none⟩ = some (.bool false) := (blk_cell BK122.out 0).trans rfl; have hcz61_1 : w58.cell? ⟨gb122, 1, none⟩ = some (.int .u64 0) := (blk_cell BK122.out 1).trans rfl; have hcz61_2 : w58.cell? ⟨gb122, 2, none⟩ = some (.int .i64 0) := (blk_cell BK122.out 2).trans rfl; have hfz61_0 := blk_frozen BK122.out 0; have hfz61_1 := blk_frozen BK122.out 1; have hfz61_2 := blk_frozen BK122.out 2; have hcz62_0 : w58.cell? ⟨gb118, 0, none⟩ = some (.bool x119000_2) := (blk_cell BK118.out 0).trans rfl; have hcz62_1 : w58.cell? ⟨gb118, 1, none⟩ = some (.int .u64 x119001_2) := (blk_cell BK118.out 1).trans rfl; have hcz62_2 : w58.cell? ⟨gb118, 2, none⟩ = some (.int .i64 x119002_2) := (blk_cell BK118.out 2).trans rfl; have hfz62_0 := blk_frozen BK118.out 0; have hfz62_1 := blk_frozen BK118.out 1; have hfz62_2 := blk_frozen BK118.out 2)))
              refine bodyPost_ret (results_cell_row rfl _ _ gb118 62 #[.bool false, .int .u64 0, .int .i64 0] (0, 0) _ rfl (by (with_reducible repeat (first | refine blk_drewN ?_ _ | refine blk_drew ?_ | refine blk_alloc ?_ _)); refine blk_put (cs := #[.bool false, .int .u64 0, .int .i64 x119002_2]) ?_ 2 _ rfl; (with_reducible repeat (first | refine blk_drewN ?_ _ | refine blk_drew ?_ | refine blk_alloc ?_ _)); refine blk_put (cs := #[.bool false, .int .u64 x119001_2, .int .i64 x119002_2]) ?_ 1 _ rfl; (with_reducible repeat (first | refine blk_drewN ?_ _ | refine blk_drew ?_ | refine blk_alloc ?_ _)); refine blk_put (cs := #[.bool x119000_2, .int .u64 x119001_2, .int .i64 x119002_2]) ?_ 0 _ rfl; (with_reducible repeat (first | refine blk_drewN ?_ _ | refine blk_drew ?_ | refine blk_alloc ?_ _)); refine blk_far ?_ NB118_122.out _; (with_reducible repeat (first | refine blk_drewN ?_ _ | refine blk_drew ?_ | refine blk_alloc ?_ _)); refine blk_far ?_ NB118_122.out _; (with_reducible repeat (first | refine blk_drewN ?_ _ | refine blk_drew ?_ | refine blk_alloc ?_ _)); refine blk_far ?_ NB118_122.out _; (with_reducible repeat (first | refine blk_drewN ?_ _ | refine blk_drew ?_ | refine blk_alloc ?_ _)); exact BK118.out) Try.underlying62 rfl (by kernel_rfl)) rfl ?_
              exact ⟨by first | rfl | (simp [errW_none, errW_some] <;> rfl) | (simp [*, errW_none, errW_some] <;> rfl), by repeat (first | (with_reducible first | exact HB.out | apply below_alloc | apply pw_below_drewN | apply below_drew1 | refine below_set ?_ GE117.out | refine below_set ?_ GE118.out | refine below_set ?_ GE122.out) | exact HB.out)⟩

end Go.Proofs.Ythfhenhlfedfmaa.QFnBits
