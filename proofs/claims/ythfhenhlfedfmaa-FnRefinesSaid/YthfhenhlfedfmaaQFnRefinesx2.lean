-- written by mp.py, a program of this session, over the translation; Lean checks it
import Derived.Test.YthfhenhlfedfmaaQFnRefinesx0
namespace Go.Proofs.Ythfhenhlfedfmaa.QFnRefines
open Go.RowKit Go.Proofs.YthfhenhlfedfmaaW.PrintWords Go.Proofs.YthfhenhlfedfmaaW.PrintLast Go.Proofs.YthfhenhlfedfmaaW.PrintMore
attribute [local go_sem] max2_int min2_int max_two min_two max_three min_three max_four min_four   -- for this text's walks alone
set_option linter.unusedVariables false
set_option linter.unusedSimpArgs false

/-- A state of type 138 at block g of W; what its slices lead to came in by w0. -/
def IsS138 (w0 W : World) (g : Nat) (f0 : List Int) (f1 : Int) (f2 : Int) : Prop := ∃ A0 c0, W.heap[g]? = some (.cells #[.slice A0 f0.length c0, .int .i64 f1, .int .i64 f2] 138 (0, 0)) ∧ w0.heap.size ≤ g ∧ Kd.C (Kd.int .u8) w0 A0 f0.length f0
theorem IsS138.grown {w0 W : World} {g : Nat} {f0 : List Int} {f1 : Int} {f2 : Int} {W1 : World} {row : Option Nat} (h : IsS138 w0 W g f0 f1 f2) (hw : W.grownBy W1 row) (hne : some g ≠ row) : IsS138 w0 W1 g f0 f1 f2 := by
  obtain ⟨A0, c0, hb, hg, hr0⟩ := h
  exact ⟨A0, c0, blk_grown hb hw hne, hg, hr0⟩
theorem IsS138.own_neN {w0 W : World} {g : Nat} {f0 : List Int} {f1 : Int} {f2 : Int} {α : Type} {d : Kd α} {e : Nat} {base : Nat} {ok : Nat → Prop} {v : Value} {xs : List α} (h : IsS138 w0 W g f0 f1 f2) (ho : Kd.N d e W base ok v xs) (ht : e ≠ 138) : some g ≠ v.ownBlock := by
  obtain ⟨A0, c0, hb, hg, hr0⟩ := h
  exact Kd.N_ne ho hb ht
theorem IsS138.fresh {w0 W : World} {g : Nat} {f0 : List Int} {f1 : Int} {f2 : Int} (h : IsS138 w0 W g f0 f1 f2) : ∀ k, W.heap.size ≤ k → k ≠ g := by
  obtain ⟨A0, c0, hb, hg, hr0⟩ := h
  exact Kd.freshB hb
theorem IsS138.kept {w0 W : World} {g : Nat} {f0 : List Int} {f1 : Int} {f2 : Int} {W1 : World} {S : Nat → Prop} (h : IsS138 w0 W g f0 f1 f2) (hk : Kept W W1 S) (hne : ¬ S g) : IsS138 w0 W1 g f0 f1 f2 := by
  obtain ⟨A0, c0, hb, hg, hr0⟩ := h
  exact ⟨A0, c0, blk_kept hb hk hne, hg, hr0⟩
theorem IsS138.below {w0 W : World} {g : Nat} {f0 : List Int} {f1 : Int} {f2 : Int} {W1 : World} (h : IsS138 w0 W g f0 f1 f2) (hw : Below W.heap.size W W1) : IsS138 w0 W1 g f0 f1 f2 := h.grown (grown_of_below hw none) (by simp)
theorem IsS138.alloc {w0 W : World} {g : Nat} {f0 : List Int} {f1 : Int} {f2 : Int} (h : IsS138 w0 W g f0 f1 f2) (o : Obj) : IsS138 w0 (W.alloc o) g f0 f1 f2 := h.below (below_alloc (Below.refl _ _) o)
theorem IsS138.drewN {w0 W : World} {g : Nat} {f0 : List Int} {f1 : Int} {f2 : Int} (h : IsS138 w0 W g f0 f1 f2) (m : Nat) : IsS138 w0 (W.drewN m) g f0 f1 f2 := h
theorem IsS138.drew {w0 W : World} {g : Nat} {f0 : List Int} {f1 : Int} {f2 : Int} (h : IsS138 w0 W g f0 f1 f2) : IsS138 w0 W.drew g f0 f1 f2 := h
theorem IsS138.at_ {w0 W : World} {g : Nat} {f0 : List Int} {f1 : Int} {f2 : Int} {w' : World} {m : Nat} (hq : W.drewN m = w') (h : IsS138 w0 W g f0 f1 f2) : IsS138 w0 w' g f0 f1 f2 := by subst hq; exact IsS138.drewN h m
theorem IsS138.apart {w0 W : World} {g : Nat} {f0 : List Int} {f1 : Int} {f2 : Int} {α : Type} {d : Kd α} {e : Nat} {base : Nat} {ok : Nat → Prop} {v : Value} {xs : List α} (h : IsS138 w0 W g f0 f1 f2) (ho : d.R e W base ok v xs) (ht : ∀ q, q ∈ e :: d.E → q ≠ 138) : d.R e W base (fun k => ok k ∧ k ≠ g) v xs := by
  obtain ⟨A0, c0, hb, hg, hr0⟩ := h
  exact Kd.R_types ho hb ht
theorem IsS138.own_ne {w0 W : World} {g : Nat} {f0 : List Int} {f1 : Int} {f2 : Int} {α : Type} {d : Kd α} {e : Nat} {base : Nat} {ok : Nat → Prop} {v : Value} {xs : List α} (h : IsS138 w0 W g f0 f1 f2) (ho : d.R e W base ok v xs) (ht : e ≠ 138) : some g ≠ v.ownBlock := by
  obtain ⟨A0, c0, hb, hg, hr0⟩ := h
  exact Kd.R_ne ho hb ht
theorem IsS138.apartQ {w0 W : World} {g : Nat} {f0 : List Int} {f1 : Int} {f2 : Int} {α : Type} {d : Kd α} {e : Nat} {base : Nat} {ok : Nat → Prop} {v : Value} {xs : List α} (h : IsS138 w0 W g f0 f1 f2) (ho : d.Q e W base ok v xs) (ht : ∀ q, q ∈ e :: d.E → q ≠ 138) : d.Q e W base (fun k => ok k ∧ k ≠ g) v xs := by
  obtain ⟨A0, c0, hb, hg, hr0⟩ := h
  exact Kd.Q_types ho hb ht
theorem IsS138.own_neQ {w0 W : World} {g : Nat} {f0 : List Int} {f1 : Int} {f2 : Int} {α : Type} {d : Kd α} {e : Nat} {base : Nat} {ok : Nat → Prop} {v : Value} {xs : List α} (h : IsS138 w0 W g f0 f1 f2) (ho : d.Q e W base ok v xs) (ht : e ≠ 138) : some g ≠ v.ownBlock := by
  obtain ⟨A0, c0, hb, hg, hr0⟩ := h
  exact Kd.Q_ne ho hb ht
theorem IsS138.apartS {w0 W : World} {g : Nat} {f0 : List Int} {f1 : Int} {f2 : Int} {α : Type} {d : Kd α} {e : Nat} {base : Nat} {ok : Nat → Prop} {v : Value} {xs : List α} (h : IsS138 w0 W g f0 f1 f2) (ho : d.S e W base ok v xs) (ht : ∀ q, q ∈ e :: d.E → q ≠ 138) : d.S e W base (fun k => ok k ∧ k ≠ g) v xs := by
  obtain ⟨A0, c0, hb, hg, hr0⟩ := h
  exact Kd.S_types ho hb ht
theorem IsS138.own_neS {w0 W : World} {g : Nat} {f0 : List Int} {f1 : Int} {f2 : Int} {α : Type} {d : Kd α} {e : Nat} {base : Nat} {ok : Nat → Prop} {v : Value} {xs : List α} (h : IsS138 w0 W g f0 f1 f2) (ho : d.S e W base ok v xs) (ht : e ≠ 138) : some g ≠ v.ownBlock := by
  obtain ⟨A0, c0, hb, hg, hr0⟩ := h
  exact Kd.S_ne ho hb ht
theorem IsS138.lt {w0 W : World} {g : Nat} {f0 : List Int} {f1 : Int} {f2 : Int} (h : IsS138 w0 W g f0 f1 f2) : g < W.heap.size := by
  obtain ⟨A0, c0, hb, hg, hr0⟩ := h
  exact blk_lt hb
theorem IsS138.ge {w0 W : World} {g : Nat} {f0 : List Int} {f1 : Int} {f2 : Int} (h : IsS138 w0 W g f0 f1 f2) : w0.heap.size ≤ g := by
  obtain ⟨A0, c0, hb, hg, hr0⟩ := h
  exact hg
theorem IsS138.ne_blk {w0 W : World} {g : Nat} {f0 : List Int} {f1 : Int} {f2 : Int} {a : Nat} {cs : Array Value} {t : TypeId} {fr : Nat × Nat} (h : IsS138 w0 W g f0 f1 f2) (hb2 : W.heap[a]? = some (.cells cs t fr)) (ht : t ≠ 138) : g ≠ a := by
  obtain ⟨A0, c0, hb, hg, hr0⟩ := h
  rintro rfl
  rw [hb] at hb2
  injection hb2 with hb2
  injection hb2 with _ ht2
  exact ht ht2.symm
theorem IsS138.far {w0 W : World} {g : Nat} {f0 : List Int} {f1 : Int} {f2 : Int} {p : Addr} (h : IsS138 w0 W g f0 f1 f2) (hne : g ≠ p.block) (u : Value) : IsS138 w0 (W.setCell p u) g f0 f1 f2 := by
  obtain ⟨A0, c0, hb, hg, hr0⟩ := h
  exact ⟨A0, c0, blk_far hb hne u, hg, hr0⟩
theorem cellS138_0 {W : World} {g : Nat} {A0 : Option Addr} {c0 : Nat} {f0 : List Int} {f1 : Int} {f2 : Int} (h : W.heap[g]? = some (.cells #[.slice A0 f0.length c0, .int .i64 f1, .int .i64 f2] 138 (0, 0))) : W.cell? ⟨g, 0, none⟩ = some (.slice A0 f0.length c0) := (blk_cell h 0).trans rfl
theorem cellS138_1 {W : World} {g : Nat} {A0 : Option Addr} {c0 : Nat} {f0 : List Int} {f1 : Int} {f2 : Int} (h : W.heap[g]? = some (.cells #[.slice A0 f0.length c0, .int .i64 f1, .int .i64 f2] 138 (0, 0))) : W.cell? ⟨g, 1, none⟩ = some (.int .i64 f1) := (blk_cell h 1).trans rfl
theorem IsS138.set_1 {w0 W : World} {g : Nat} {f0 : List Int} {f1 : Int} {f2 : Int} (h : IsS138 w0 W g f0 f1 f2) (x : Int) : IsS138 w0 (W.setCell ⟨g, 1, none⟩ (.int .i64 x)) g f0 x f2 := by
  obtain ⟨A0, c0, hb, hg, hr0⟩ := h
  exact ⟨A0, c0, by simpa using blk_set hb 1 (.int .i64 x), hg, hr0⟩
theorem cellS138_2 {W : World} {g : Nat} {A0 : Option Addr} {c0 : Nat} {f0 : List Int} {f1 : Int} {f2 : Int} (h : W.heap[g]? = some (.cells #[.slice A0 f0.length c0, .int .i64 f1, .int .i64 f2] 138 (0, 0))) : W.cell? ⟨g, 2, none⟩ = some (.int .i64 f2) := (blk_cell h 2).trans rfl
theorem IsS138.set_2 {w0 W : World} {g : Nat} {f0 : List Int} {f1 : Int} {f2 : Int} (h : IsS138 w0 W g f0 f1 f2) (x : Int) : IsS138 w0 (W.setCell ⟨g, 2, none⟩ (.int .i64 x)) g f0 f1 x := by
  obtain ⟨A0, c0, hb, hg, hr0⟩ := h
  exact ⟨A0, c0, by simpa using blk_set hb 2 (.int .i64 x), hg, hr0⟩
theorem IsS138.new (w0 W : World) (A0 : Option Addr) (c0 : Nat) (f0 : List Int) (f1 : Int) (f2 : Int) (hB : Below w0.heap.size w0 W) (hr0 : Kd.C (Kd.int .u8) w0 A0 f0.length f0) : IsS138 w0 (W.alloc (.cells #[.slice A0 f0.length c0, .int .i64 f1, .int .i64 f2] 138)) W.heap.size f0 f1 f2 := ⟨A0, c0, by simpa using heap_alloc_new W _, hB.size, hr0⟩

/-! ### spec_l1Source: function 76 -/
def spec_l1Source.f (l0 : List Int) : Option (List Int × Int × Int) := if (wrap64 ((l0.length : Int) / 16)) > 12 then (some (l0, 0, 12)) else (some (l0, 0, wrap64 ((l0.length : Int) / 16)))
set_option maxHeartbeats 8000000 in
set_option maxRecDepth 100000 in
theorem spec_l1Source.calls (A0 : Option Addr) (c0 : Nat) (l0 : List Int) (r1 : List Int) (r2 : Int) (r3 : Int) (w0 w : World) (hB : Below w0.heap.size w0 w) (hr0 : Kd.C (Kd.int .u8) w0 A0 l0.length l0) (hc0 : l0.length ≤ c0) (h : spec_l1Source.f l0 = some (r1, r2, r3)) :
    Calls Try.prog 76 #[.slice A0 l0.length c0] w fun e w' => ∃ g_ : Nat, e = .returned (.pointer (some ⟨g_, 0, none⟩)) ∧ IsS138 w0 w' g_ r1 r2 r3 ∧ Below w0.heap.size w0 w' ∧ Below w.heap.size w w' := by
  have hu138 := Try.underlying138
  have HR0 := Aside0.mk hr0
  have HC0 := Aside0.mk hc0
  clear hr0 hc0
  have HBW := Aside0.mk (Below.refl w.heap.size w)
  have HW0 := Aside0.mk hB.size
  have HB := Aside0.mk hB
  clear hB
  have H : (if (wrap64 ((l0.length : Int) / 16)) > 12 then (some (l0, 0, 12)) else (some (l0, 0, wrap64 ((l0.length : Int) / 16)))) = some (r1, r2, r3) := h
  clear h
  by_cases c2 : (wrap64 ((l0.length : Int) / 16)) > 12
  · rw [if_pos c2] at H
    have c2b0 : decide (12 < (wrap64 ((l0.length : Int) / 16))) = true := decide_eq_true c2
    clear c2
    simp only [Option.some.injEq, Prod.mk.injEq] at H
    obtain ⟨rfl, rfl, rfl⟩ := H
    go_enter Try.func76, Try.ntmps76
    go_wp2_with (first | ((with_reducible refine gate_dst (N := 14) rfl ?_); refine box_event ?hg (N := 14) ?hd (cs := #[.slice A0 l0.length c0, .int .i64 0, .int .i64 12]) (t := 138) ?hr ?_; (case hd => rfl); (case hg => rfl); (case hr => first | (go_simp; done) | (go_simp; rfl)); intro gb101 hg w3 hbox hb; have n0_ := Aside0.mk (below_step HBW.out hb); have n1_ := Aside0.mk (below_step (by repeat (first | (with_reducible first | exact HB.out | apply below_alloc | apply pw_below_drewN | apply below_drew1) | exact HB.out)) hb); have n2_ := Aside0.mk (hbox); have n3_ := Aside0.mk ((by rw [hg]; exact (below_size (by repeat (first | (with_reducible first | exact HBW.out | apply below_alloc | apply pw_below_drewN | apply below_drew1) | exact HBW.out))) : w.heap.size ≤ gb101)); have n4_ := Aside0.mk ((Nat.le_trans HW0.out (by rw [hg]; exact (below_size (by repeat (first | (with_reducible first | exact HBW.out | apply below_alloc | apply pw_below_drewN | apply below_drew1) | exact HBW.out))) : w.heap.size ≤ gb101) : w0.heap.size ≤ gb101)); clear HBW; clear HB; have HBW := n0_; have HB := n1_; have BK101 := n2_; have GW101 := n3_; have GE101 := n4_; clear n0_ n1_ n2_ n3_ n4_; clear hb hbox hg))
    go_ret
    exact ⟨_, rfl, (show IsS138 w0 _ gb101 l0 0 12 from ⟨_, _, by (with_reducible repeat (first | refine blk_drewN ?_ _ | refine blk_drew ?_ | refine blk_alloc ?_ _)); exact BK101.out, GE101.out, HR0.out⟩), by repeat (first | (with_reducible first | exact HB.out | apply below_alloc | apply pw_below_drewN | apply below_drew1 | refine below_set ?_ GE101.out) | exact HB.out), by repeat (first | (with_reducible first | exact HBW.out | apply below_alloc | apply pw_below_drewN | apply below_drew1 | refine below_set ?_ GW101.out) | exact HBW.out)⟩
  · rw [if_neg c2] at H
    have c2b0 : decide (12 < (wrap64 ((l0.length : Int) / 16))) = false := decide_eq_false c2
    clear c2
    simp only [Option.some.injEq, Prod.mk.injEq] at H
    obtain ⟨rfl, rfl, rfl⟩ := H
    go_enter Try.func76, Try.ntmps76
    go_wp2_with (first | ((with_reducible refine gate_dst (N := 14) rfl ?_); refine box_event ?hg (N := 14) ?hd (cs := #[.slice A0 l0.length c0, .int .i64 0, .int .i64 (wrap64 ((l0.length : Int) / 16))]) (t := 138) ?hr ?_; (case hd => rfl); (case hg => rfl); (case hr => first | (go_simp; done) | (go_simp; rfl)); intro gb102 hg w4 hbox hb; have n0_ := Aside0.mk (below_step HBW.out hb); have n1_ := Aside0.mk (below_step (by repeat (first | (with_reducible first | exact HB.out | apply below_alloc | apply pw_below_drewN | apply below_drew1) | exact HB.out)) hb); have n2_ := Aside0.mk (hbox); have n3_ := Aside0.mk ((by rw [hg]; exact (below_size (by repeat (first | (with_reducible first | exact HBW.out | apply below_alloc | apply pw_below_drewN | apply below_drew1) | exact HBW.out))) : w.heap.size ≤ gb102)); have n4_ := Aside0.mk ((Nat.le_trans HW0.out (by rw [hg]; exact (below_size (by repeat (first | (with_reducible first | exact HBW.out | apply below_alloc | apply pw_below_drewN | apply below_drew1) | exact HBW.out))) : w.heap.size ≤ gb102) : w0.heap.size ≤ gb102)); clear HBW; clear HB; have HBW := n0_; have HB := n1_; have BK102 := n2_; have GW102 := n3_; have GE102 := n4_; clear n0_ n1_ n2_ n3_ n4_; clear hb hbox hg))
    go_ret
    exact ⟨_, rfl, (show IsS138 w0 _ gb102 l0 0 (wrap64 ((l0.length : Int) / 16)) from ⟨_, _, by (with_reducible repeat (first | refine blk_drewN ?_ _ | refine blk_drew ?_ | refine blk_alloc ?_ _)); exact BK102.out, GE102.out, HR0.out⟩), by repeat (first | (with_reducible first | exact HB.out | apply below_alloc | apply pw_below_drewN | apply below_drew1 | refine below_set ?_ GE102.out) | exact HB.out), by repeat (first | (with_reducible first | exact HBW.out | apply below_alloc | apply pw_below_drewN | apply below_drew1 | refine below_set ?_ GW102.out) | exact HBW.out)⟩

/-! ### spec_l1Next: function 79 -/
def spec_l1Next.f (s0_0 : List Int) (s0_1 : Int) (s0_2 : Int) (a1 : Int) : Option (Int × Int × Int) := if a1 < 1 then (some (0, wrap64 (s0_1 + 1), s0_2)) else (if (s0_0.length : Int) = 0 then (if a1 = 0 then (none) else (some (Int.tmod (wrap64 ((wrap64 ((wrap64 (s0_1 + 1)) - 1)) * 7)) a1, wrap64 (s0_1 + 1), s0_2))) else (if 0 ≤ (Int.tmod (wrap64 ((wrap64 (s0_1 + 1)) - 1)) (s0_0.length : Int)) then (if (Int.tmod (wrap64 ((wrap64 (s0_1 + 1)) - 1)) (s0_0.length : Int)) < (s0_0.length : Int) then (if a1 > 200 then (if 0 ≤ (Int.tmod (wrap64 ((wrap64 ((wrap64 (s0_1 + 1)) - 1)) + 1)) (s0_0.length : Int)) then (if (Int.tmod (wrap64 ((wrap64 ((wrap64 (s0_1 + 1)) - 1)) + 1)) (s0_0.length : Int)) < (s0_0.length : Int) then (if a1 = 0 then (none) else (some (Int.tmod (wrap64 ((wrap64 ((wrap64 ((wrap64 ((wrap64 (rd s0_0 (Int.tmod (wrap64 ((wrap64 (s0_1 + 1)) - 1)) (s0_0.length : Int)))) + (wrap64 ((wrap64 (Int.tdiv (wrap64 ((wrap64 (s0_1 + 1)) - 1)) (s0_0.length : Int))) * 37)))) * 251)) + (wrap64 ((wrap64 (rd s0_0 (Int.tmod (wrap64 ((wrap64 ((wrap64 (s0_1 + 1)) - 1)) + 1)) (s0_0.length : Int)))) * 13)))) + (wrap64 ((wrap64 (s0_1 + 1)) - 1)))) a1, wrap64 (s0_1 + 1), s0_2))) else (none)) else (none)) else (if a1 = 0 then (none) else (some (Int.tmod (wrap64 ((wrap64 (rd s0_0 (Int.tmod (wrap64 ((wrap64 (s0_1 + 1)) - 1)) (s0_0.length : Int)))) + (wrap64 ((wrap64 (Int.tdiv (wrap64 ((wrap64 (s0_1 + 1)) - 1)) (s0_0.length : Int))) * 37)))) a1, wrap64 (s0_1 + 1), s0_2)))) else (none)) else (none)))
set_option maxHeartbeats 8000000 in
set_option maxRecDepth 100000 in
theorem spec_l1Next.calls (g : Nat) (s0_0 : List Int) (s0_1 : Int) (s0_2 : Int) (a1 : Int) (r1 : Int) (r2 : Int) (r3 : Int) (w0 w : World) (hI : IsS138 w0 w g s0_0 s0_1 s0_2) (hB : Below w0.heap.size w0 w) (h : spec_l1Next.f s0_0 s0_1 s0_2 a1 = some (r1, r2, r3)) :
    Calls Try.prog 79 #[.pointer (some ⟨g, 0, none⟩), .int .i64 a1] w fun e w' => e = .returned (.int .i64 r1) ∧ IsS138 w0 w' g s0_0 r2 r3 ∧ Below w0.heap.size w0 w' ∧ KeepBut w w' g none := by
  have HI0 := Aside0.mk hI
  have HK := Aside0.mk (KeepBut.refl w g none)
  have HL := Aside0.mk hB.size
  clear hI
  have HW0 := Aside0.mk hB.size
  have HB := Aside0.mk hB
  clear hB
  have H : (if a1 < 1 then (some (0, wrap64 (s0_1 + 1), s0_2)) else (if (s0_0.length : Int) = 0 then (if a1 = 0 then (none) else (some (Int.tmod (wrap64 ((wrap64 ((wrap64 (s0_1 + 1)) - 1)) * 7)) a1, wrap64 (s0_1 + 1), s0_2))) else (if 0 ≤ (Int.tmod (wrap64 ((wrap64 (s0_1 + 1)) - 1)) (s0_0.length : Int)) then (if (Int.tmod (wrap64 ((wrap64 (s0_1 + 1)) - 1)) (s0_0.length : Int)) < (s0_0.length : Int) then (if a1 > 200 then (if 0 ≤ (Int.tmod (wrap64 ((wrap64 ((wrap64 (s0_1 + 1)) - 1)) + 1)) (s0_0.length : Int)) then (if (Int.tmod (wrap64 ((wrap64 ((wrap64 (s0_1 + 1)) - 1)) + 1)) (s0_0.length : Int)) < (s0_0.length : Int) then (if a1 = 0 then (none) else (some (Int.tmod (wrap64 ((wrap64 ((wrap64 ((wrap64 ((wrap64 (rd s0_0 (Int.tmod (wrap64 ((wrap64 (s0_1 + 1)) - 1)) (s0_0.length : Int)))) + (wrap64 ((wrap64 (Int.tdiv (wrap64 ((wrap64 (s0_1 + 1)) - 1)) (s0_0.length : Int))) * 37)))) * 251)) + (wrap64 ((wrap64 (rd s0_0 (Int.tmod (wrap64 ((wrap64 ((wrap64 (s0_1 + 1)) - 1)) + 1)) (s0_0.length : Int)))) * 13)))) + (wrap64 ((wrap64 (s0_1 + 1)) - 1)))) a1, wrap64 (s0_1 + 1), s0_2))) else (none)) else (none)) else (if a1 = 0 then (none) else (some (Int.tmod (wrap64 ((wrap64 (rd s0_0 (Int.tmod (wrap64 ((wrap64 (s0_1 + 1)) - 1)) (s0_0.length : Int)))) + (wrap64 ((wrap64 (Int.tdiv (wrap64 ((wrap64 (s0_1 + 1)) - 1)) (s0_0.length : Int))) * 37)))) a1, wrap64 (s0_1 + 1), s0_2)))) else (none)) else (none)))) = some (r1, r2, r3) := h
  clear h
  by_cases c3 : a1 < 1
  · rw [if_pos c3] at H
    have c3b0 : decide (a1 < 1) = true := decide_eq_true c3
    clear c3
    simp only [Option.some.injEq, Prod.mk.injEq] at H
    obtain ⟨rfl, rfl, rfl⟩ := H
    obtain ⟨ASz4_0, cSz4_0, HGz4, hgz4, HSz4_0⟩ := HI0.out
    have hcz4_0 := cellS138_0 HGz4
    have hcz4_1 := cellS138_1 HGz4
    have hcz4_2 := cellS138_2 HGz4
    have hfz4_1 := blk_frozen HGz4 1
    have hfz4_2 := blk_frozen HGz4 2
    clear HGz4 hgz4
    go_enter Try.func79, Try.ntmps79
    go_wp2
    repeat (go_quiet (fail); try go_wp2)
    go_ret
    exact ⟨by first | rfl | (simp [errW_none, errW_some] <;> rfl) | (simp [*, errW_none, errW_some] <;> rfl), by repeat (first | (with_reducible first | exact HI0.out | apply IsS138.alloc | apply IsS138.drewN | apply IsS138.drew | apply IsS138.set_1 | apply IsS138.set_2) | exact HI0.out), by repeat (first | (with_reducible first | exact HB.out | apply below_alloc | apply pw_below_drewN | apply below_drew1 | refine below_set ?_ (IsS138.ge HI0.out)) | exact HB.out), by repeat (first | (with_reducible first | exact HK.out | apply KeepBut.set_ | apply keep_drewN | apply keep_drew | apply keep_alloc) | exact HK.out)⟩
  · rw [if_neg c3] at H
    have c3b0 : decide (a1 < 1) = false := decide_eq_false c3
    clear c3
    by_cases c5 : (s0_0.length : Int) = 0
    · rw [if_pos c5] at H
      have c5b0 : ((s0_0.length : Int) == 0) = true := beq_iff_eq.mpr c5
      have c5b1 : ((s0_0.length : Int) != 0) = false := bne_eq_false_iff_eq.mpr c5
      clear c5
      by_cases c6 : a1 = 0
      · rw [if_pos c6] at H
        exact absurd H (by simp)
      · rw [if_neg c6] at H
        have c6b0 : (a1 == 0) = false := beq_eq_false_iff_ne.mpr c6
        have c6b1 : (a1 != 0) = true := bne_iff_ne.mpr c6
        simp only [Option.some.injEq, Prod.mk.injEq] at H
        obtain ⟨rfl, rfl, rfl⟩ := H
        obtain ⟨ASz7_0, cSz7_0, HGz7, hgz7, HSz7_0⟩ := HI0.out
        have hcz7_0 := cellS138_0 HGz7
        have hcz7_1 := cellS138_1 HGz7
        have hcz7_2 := cellS138_2 HGz7
        have hfz7_1 := blk_frozen HGz7 1
        have hfz7_2 := blk_frozen HGz7 2
        clear HGz7 hgz7
        go_enter Try.func79, Try.ntmps79
        go_wp2
        repeat (go_quiet (fail); try go_wp2)
        go_ret
        exact ⟨by first | rfl | (simp [errW_none, errW_some] <;> rfl) | (simp [*, errW_none, errW_some] <;> rfl), by repeat (first | (with_reducible first | exact HI0.out | apply IsS138.alloc | apply IsS138.drewN | apply IsS138.drew | apply IsS138.set_1 | apply IsS138.set_2) | exact HI0.out), by repeat (first | (with_reducible first | exact HB.out | apply below_alloc | apply pw_below_drewN | apply below_drew1 | refine below_set ?_ (IsS138.ge HI0.out)) | exact HB.out), by repeat (first | (with_reducible first | exact HK.out | apply KeepBut.set_ | apply keep_drewN | apply keep_drew | apply keep_alloc) | exact HK.out)⟩
    · rw [if_neg c5] at H
      have c5b0 : ((s0_0.length : Int) == 0) = false := beq_eq_false_iff_ne.mpr c5
      have c5b1 : ((s0_0.length : Int) != 0) = true := bne_iff_ne.mpr c5
      have c5b2 : ¬ (s0_0 = []) := fun h_ => c5 (by rw [h_]; rfl)
      obtain ⟨ji8, hji8⟩ : ∃ j_ : Int, (Int.tmod (wrap64 ((wrap64 (s0_1 + 1)) - 1)) (s0_0.length : Int)) = j_ := ⟨_, rfl⟩
      replace H : (if 0 ≤ (ji8) then (if (ji8) < (s0_0.length : Int) then (if a1 > 200 then (if 0 ≤ (Int.tmod (wrap64 ((wrap64 ((wrap64 (s0_1 + 1)) - 1)) + 1)) (s0_0.length : Int)) then (if (Int.tmod (wrap64 ((wrap64 ((wrap64 (s0_1 + 1)) - 1)) + 1)) (s0_0.length : Int)) < (s0_0.length : Int) then (if a1 = 0 then (none) else (some (Int.tmod (wrap64 ((wrap64 ((wrap64 ((wrap64 ((wrap64 (rd s0_0 (ji8))) + (wrap64 ((wrap64 (Int.tdiv (wrap64 ((wrap64 (s0_1 + 1)) - 1)) (s0_0.length : Int))) * 37)))) * 251)) + (wrap64 ((wrap64 (rd s0_0 (Int.tmod (wrap64 ((wrap64 ((wrap64 (s0_1 + 1)) - 1)) + 1)) (s0_0.length : Int)))) * 13)))) + (wrap64 ((wrap64 (s0_1 + 1)) - 1)))) a1, wrap64 (s0_1 + 1), s0_2))) else (none)) else (none)) else (if a1 = 0 then (none) else (some (Int.tmod (wrap64 ((wrap64 (rd s0_0 (ji8))) + (wrap64 ((wrap64 (Int.tdiv (wrap64 ((wrap64 (s0_1 + 1)) - 1)) (s0_0.length : Int))) * 37)))) a1, wrap64 (s0_1 + 1), s0_2)))) else (none)) else (none)) = some (r1, r2, r3) := by first | (rw [hji8] at H; exact H) | (simp only [hji8] at H ⊢; exact H)
      by_cases c9 : 0 ≤ (ji8)
      · rw [if_pos c9] at H
        have c9b0 : decide (0 ≤ (ji8)) = true := decide_eq_true c9
        clear c9
        by_cases c10 : (ji8) < (s0_0.length : Int)
        · rw [if_pos c10] at H
          have c10b0 : decide ((ji8) < (s0_0.length : Int)) = true := decide_eq_true c10
          clear c10
          by_cases c11 : a1 > 200
          · rw [if_pos c11] at H
            have c11b0 : decide (200 < a1) = true := decide_eq_true c11
            clear c11
            obtain ⟨ji12, hji12⟩ : ∃ j_ : Int, (Int.tmod (wrap64 ((wrap64 ((wrap64 (s0_1 + 1)) - 1)) + 1)) (s0_0.length : Int)) = j_ := ⟨_, rfl⟩
            replace H : (if 0 ≤ (ji12) then (if (ji12) < (s0_0.length : Int) then (if a1 = 0 then (none) else (some (Int.tmod (wrap64 ((wrap64 ((wrap64 ((wrap64 ((wrap64 (rd s0_0 (ji8))) + (wrap64 ((wrap64 (Int.tdiv (wrap64 ((wrap64 (s0_1 + 1)) - 1)) (s0_0.length : Int))) * 37)))) * 251)) + (wrap64 ((wrap64 (rd s0_0 (ji12))) * 13)))) + (wrap64 ((wrap64 (s0_1 + 1)) - 1)))) a1, wrap64 (s0_1 + 1), s0_2))) else (none)) else (none)) = some (r1, r2, r3) := by first | (rw [hji12] at H; exact H) | (simp only [hji12] at H ⊢; exact H)
            by_cases c13 : 0 ≤ (ji12)
            · rw [if_pos c13] at H
              have c13b0 : decide (0 ≤ (ji12)) = true := decide_eq_true c13
              clear c13
              by_cases c14 : (ji12) < (s0_0.length : Int)
              · rw [if_pos c14] at H
                have c14b0 : decide ((ji12) < (s0_0.length : Int)) = true := decide_eq_true c14
                clear c14
                by_cases c15 : a1 = 0
                · rw [if_pos c15] at H
                  exact absurd H (by simp)
                · rw [if_neg c15] at H
                  have c15b0 : (a1 == 0) = false := beq_eq_false_iff_ne.mpr c15
                  have c15b1 : (a1 != 0) = true := bne_iff_ne.mpr c15
                  simp only [Option.some.injEq, Prod.mk.injEq] at H
                  obtain ⟨rfl, rfl, rfl⟩ := H
                  obtain ⟨ASz16_0, cSz16_0, HGz16, hgz16, HSz16_0⟩ := HI0.out
                  have hcz16_0 := cellS138_0 HGz16
                  have hcz16_1 := cellS138_1 HGz16
                  have hcz16_2 := cellS138_2 HGz16
                  have hfz16_1 := blk_frozen HGz16 1
                  have hfz16_2 := blk_frozen HGz16 2
                  clear HGz16 hgz16
                  have p103 : 0 ≤ ((ji8) : Int) := of_decide_eq_true (by first | (with_reducible assumption) | assumption)
                  have q103 : (ji8) < (s0_0.length : Int) := of_decide_eq_true (by first | (with_reducible assumption) | assumption)
                  obtain ⟨ad103, e103, hx103_0⟩ := Kd.at_int HSz16_0 (ji8) p103 q103
                  cases e103
                  have hn103_0 : ad103.block ≠ g := Nat.ne_of_lt (Nat.lt_of_lt_of_le (by have := World.block_lt_of_cell? _ _ hx103_0; first | rwa [add_block] at this | exact this) (IsS138.ge HI0.out))
                  replace hx103_0 := pw_cell_below HB.out hx103_0
                  replace hx103_0 := (cell_far (p := ⟨g, 1, none⟩) (by first | (rw [add_block]; exact hn103_0) | (show (Addr.add _ _).block ≠ _; rw [add_block]; exact hn103_0) | exact hn103_0) (.int .i64 (wrap64 (s0_1 + 1)))).trans hx103_0
                  (try have hy103_0 := fun (n_ : Nat) => (show (((w.drewN n_).setCell ⟨g, 1, none⟩ (.int .i64 (wrap64 (s0_1 + 1))))).cell? _ = some _ from hx103_0))
                  clear hn103_0
                  replace p103 := eq_true p103
                  replace q103 := eq_true q103
                  have p104 : 0 ≤ ((ji12) : Int) := of_decide_eq_true (by first | (with_reducible assumption) | assumption)
                  have q104 : (ji12) < (s0_0.length : Int) := of_decide_eq_true (by first | (with_reducible assumption) | assumption)
                  obtain ⟨ad104, e104, hx104_0⟩ := Kd.at_int HSz16_0 (ji12) p104 q104
                  obtain rfl : ad103 = ad104 := (by injection e104)
                  have hn104_0 : ad103.block ≠ g := Nat.ne_of_lt (Nat.lt_of_lt_of_le (by have := World.block_lt_of_cell? _ _ hx104_0; first | rwa [add_block] at this | exact this) (IsS138.ge HI0.out))
                  replace hx104_0 := pw_cell_below HB.out hx104_0
                  replace hx104_0 := (cell_far (p := ⟨g, 1, none⟩) (by first | (rw [add_block]; exact hn104_0) | (show (Addr.add _ _).block ≠ _; rw [add_block]; exact hn104_0) | exact hn104_0) (.int .i64 (wrap64 (s0_1 + 1)))).trans hx104_0
                  (try have hy104_0 := fun (n_ : Nat) => (show (((w.drewN n_).setCell ⟨g, 1, none⟩ (.int .i64 (wrap64 (s0_1 + 1))))).cell? _ = some _ from hx104_0))
                  clear hn104_0
                  replace p104 := eq_true p104
                  replace q104 := eq_true q104
                  go_enter Try.func79, Try.ntmps79
                  go_wp2
                  repeat (go_quiet (fail); try go_wp2)
                  go_ret
                  exact ⟨by first | rfl | (simp [errW_none, errW_some] <;> rfl) | (simp only [← hji8, ← hji12]; first | rfl | (simp [errW_none, errW_some] <;> rfl)) | (simp [*, errW_none, errW_some] <;> rfl), by repeat (first | (with_reducible first | exact HI0.out | apply IsS138.alloc | apply IsS138.drewN | apply IsS138.drew | apply IsS138.set_1 | apply IsS138.set_2) | exact HI0.out), by repeat (first | (with_reducible first | exact HB.out | apply below_alloc | apply pw_below_drewN | apply below_drew1 | refine below_set ?_ (IsS138.ge HI0.out)) | exact HB.out), by repeat (first | (with_reducible first | exact HK.out | apply KeepBut.set_ | apply keep_drewN | apply keep_drew | apply keep_alloc) | exact HK.out)⟩
              · rw [if_neg c14] at H
                exact absurd H (by simp)
            · rw [if_neg c13] at H
              exact absurd H (by simp)
          · rw [if_neg c11] at H
            have c11b0 : decide (200 < a1) = false := decide_eq_false c11
            clear c11
            by_cases c17 : a1 = 0
            · rw [if_pos c17] at H
              exact absurd H (by simp)
            · rw [if_neg c17] at H
              have c17b0 : (a1 == 0) = false := beq_eq_false_iff_ne.mpr c17
              have c17b1 : (a1 != 0) = true := bne_iff_ne.mpr c17
              simp only [Option.some.injEq, Prod.mk.injEq] at H
              obtain ⟨rfl, rfl, rfl⟩ := H
              obtain ⟨ASz18_0, cSz18_0, HGz18, hgz18, HSz18_0⟩ := HI0.out
              have hcz18_0 := cellS138_0 HGz18
              have hcz18_1 := cellS138_1 HGz18
              have hcz18_2 := cellS138_2 HGz18
              have hfz18_1 := blk_frozen HGz18 1
              have hfz18_2 := blk_frozen HGz18 2
              clear HGz18 hgz18
              have p103 : 0 ≤ ((ji8) : Int) := of_decide_eq_true (by first | (with_reducible assumption) | assumption)
              have q103 : (ji8) < (s0_0.length : Int) := of_decide_eq_true (by first | (with_reducible assumption) | assumption)
              obtain ⟨ad103, e103, hx103_0⟩ := Kd.at_int HSz18_0 (ji8) p103 q103
              cases e103
              have hn103_0 : ad103.block ≠ g := Nat.ne_of_lt (Nat.lt_of_lt_of_le (by have := World.block_lt_of_cell? _ _ hx103_0; first | rwa [add_block] at this | exact this) (IsS138.ge HI0.out))
              replace hx103_0 := pw_cell_below HB.out hx103_0
              replace hx103_0 := (cell_far (p := ⟨g, 1, none⟩) (by first | (rw [add_block]; exact hn103_0) | (show (Addr.add _ _).block ≠ _; rw [add_block]; exact hn103_0) | exact hn103_0) (.int .i64 (wrap64 (s0_1 + 1)))).trans hx103_0
              (try have hy103_0 := fun (n_ : Nat) => (show (((w.drewN n_).setCell ⟨g, 1, none⟩ (.int .i64 (wrap64 (s0_1 + 1))))).cell? _ = some _ from hx103_0))
              clear hn103_0
              replace p103 := eq_true p103
              replace q103 := eq_true q103
              go_enter Try.func79, Try.ntmps79
              go_wp2
              repeat (go_quiet (fail); try go_wp2)
              go_ret
              exact ⟨by first | rfl | (simp [errW_none, errW_some] <;> rfl) | (simp only [← hji8]; first | rfl | (simp [errW_none, errW_some] <;> rfl)) | (simp [*, errW_none, errW_some] <;> rfl), by repeat (first | (with_reducible first | exact HI0.out | apply IsS138.alloc | apply IsS138.drewN | apply IsS138.drew | apply IsS138.set_1 | apply IsS138.set_2) | exact HI0.out), by repeat (first | (with_reducible first | exact HB.out | apply below_alloc | apply pw_below_drewN | apply below_drew1 | refine below_set ?_ (IsS138.ge HI0.out)) | exact HB.out), by repeat (first | (with_reducible first | exact HK.out | apply KeepBut.set_ | apply keep_drewN | apply keep_drew | apply keep_alloc) | exact HK.out)⟩
        · rw [if_neg c10] at H
          exact absurd H (by simp)
      · rw [if_neg c9] at H
        exact absurd H (by simp)

/-! ### spec_l15Outcome: function 77 -/
def spec_l15Outcome.l0 : Nat → Int → List Int → Int → Int → Int → Bool → Int → Int → List Int → Int → Option (Int × Bool × Int × Int × List Int × Int × Int × Int)
  | 0, _, _, _, _, _, _, _, _, _, _ => none
  | k + 1, x4, x1000, x1001, x1002, x113000, x113001, x113002, x113003, x113004, x113005 => if x4 > 0 then ((spec_l1Next.f x1000 x1001 x1002 3).bind fun bt116 => (if x113004.length < 17592186044416 then (spec_l15Outcome.l0 k (wrap64 (x4 - 1)) x1000 bt116.2.1 bt116.2.2 x113000 x113001 x113002 x113003 (x113004 ++ [IntKind.u64.wrap (bt116.1)]) x113005) else (none))) else (if x113000 = 0 then ((spec_l1Next.f x1000 x1001 x1002 3).bind fun bt122 => ((some (([(⟨false, 0, IntKind.u64.wrap (bt122.1)⟩ : S50), (⟨true, 0, 0⟩ : S50), (⟨false, 1, 2⟩ : S50), (⟨false, 0, 0⟩ : S50)] : List (S50)) : List (S50))).bind fun y125 => ((spec_l1Next.f x1000 bt122.2.1 bt122.2.2 4).bind fun bt128 => (if 0 ≤ bt128.1 then (if bt128.1 < (y125.length : Int) then (some (x113000, (rd_T50 y125 bt128.1).f0, (rd_T50 y125 bt128.1).f1, (rd_T50 y125 bt128.1).f2, x113004, x113005, bt128.2.1, bt128.2.2)) else (none)) else (none))))) else (some (x113000, x113001, x113002, x113003, x113004, x113005, x1001, x1002)))
def spec_l15Outcome.f (k : Nat) (s0_0 : List Int) (s0_1 : Int) (s0_2 : Int) : Option (Int × Bool × Int × Int × List Int × Int × Int × Int) := (spec_l1Next.f s0_0 s0_1 s0_2 8).bind fun bt106 => ((spec_l1Next.f s0_0 bt106.2.1 bt106.2.2 9).bind fun bt109 => ((spec_l1Next.f s0_0 bt109.2.1 bt109.2.2 4).bind fun bt113 => (spec_l15Outcome.l0 k bt113.1 s0_0 bt113.2.1 bt113.2.2 bt106.1 false 0 0 ([] : List Int) bt109.1)))
theorem spec_l15Outcome.mono_l : ∀ k, (∀ y0 y1 y2 y3 y4 y5 y6 y7 y8 y9, LeO (spec_l15Outcome.l0 k y0 y1 y2 y3 y4 y5 y6 y7 y8 y9) (spec_l15Outcome.l0 (k + 1) y0 y1 y2 y3 y4 y5 y6 y7 y8 y9))
  | 0 => fun _ _ _ _ _ _ _ _ _ _ r h => by simp [spec_l15Outcome.l0] at h
  | k + 1 => by
    have ih0 := spec_l15Outcome.mono_l k
    · intro y0 y1 y2 y3 y4 y5 y6 y7 y8 y9
      unfold spec_l15Outcome.l0
      repeat' first
      | (with_reducible exact ih0 _ _ _ _ _ _ _ _ _ _)
      | (with_reducible exact LeO.refl _)
      | (with_reducible exact LeO.none _)
      | (with_reducible refine LeO.ite ?_ ?_)
      | (with_reducible refine LeO.bind ?_ (fun _ => ?_))
      | exact ih0 _ _ _ _ _ _ _ _ _ _
      | exact LeO.none _
      | refine LeO.ite ?_ ?_
      | refine LeO.bind ?_ (fun _ => ?_)
theorem spec_l15Outcome.mono : ∀ a0 a1 a2 k, LeO (spec_l15Outcome.f k a0 a1 a2) (spec_l15Outcome.f (k + 1) a0 a1 a2) := by
  intro a0 a1 a2 k
  have ih0 := spec_l15Outcome.mono_l k
  unfold spec_l15Outcome.f
  repeat' first
      | (with_reducible exact ih0 _ _ _ _ _ _ _ _ _ _)
      | (with_reducible exact LeO.refl _)
      | (with_reducible exact LeO.none _)
      | (with_reducible refine LeO.ite ?_ ?_)
      | (with_reducible refine LeO.bind ?_ (fun _ => ?_))
      | exact ih0 _ _ _ _ _ _ _ _ _ _
      | exact LeO.none _
      | refine LeO.ite ?_ ?_
      | refine LeO.bind ?_ (fun _ => ?_)
def spec_l15Outcome.T5 : Bool × List (List Nat × List Nat) := (true, [([], []), ([0], [0]), ([], []), ([2], [2]), ([3], [3]), ([4], [4]), ([1, 5, 3], [1, 5]), ([0, 1, 2, 3, 4, 5, 6], []), ([7, 6, 6, 0, 1, 2, 3, 4, 5, 6], [6, 7])])
def spec_l15Outcome.B5 : List Nat := [0, 1, 0, 4, 12, 28, 63, 127, 255]
theorem spec_l15Outcome.tab5 : rtab .any (opsOf Try.f77 5) = spec_l15Outcome.T5 := by kernel_rfl
theorem spec_l15Outcome.bits5 : waitsOk spec_l15Outcome.T5.2 spec_l15Outcome.B5 = true := by kernel_rfl
set_option maxHeartbeats 8000000 in
set_option maxRecDepth 100000 in
theorem spec_l15Outcome.calls (k : Nat) (g : Nat) (s0_0 : List Int) (s0_1 : Int) (s0_2 : Int) (r1 : Int) (r2 : Bool) (r3 : Int) (r4 : Int) (r5 : List Int) (r6 : Int) (r7 : Int) (r8 : Int) (w0 w : World) (hI : IsS138 w0 w g s0_0 s0_1 s0_2) (hB : Below w0.heap.size w0 w) (h : spec_l15Outcome.f k s0_0 s0_1 s0_2 = some (r1, r2, r3, r4, r5, r6, r7, r8)) :
    Calls Try.prog 77 #[.pointer (some ⟨g, 0, none⟩)] w fun e w' => ∃ v4_ : Value, e = .returned (.agg #[.int .i64 r1, .bool r2, .int .i64 r3, .int .u64 r4, v4_, .int .i64 r6]) ∧ Kd.R (Kd.int .u64) 38 w' w.heap.size (fun _ => True) v4_ r5 ∧ IsS138 w0 w' g s0_0 r7 r8 ∧ Below w0.heap.size w0 w' ∧ KeepBut w w' g none := by
  have hu53 := Try.underlying53
  have hu50 := Try.underlying50
  have HI0 := Aside0.mk hI
  have HK := Aside0.mk (KeepBut.refl w g none)
  have HL := Aside0.mk hB.size
  clear hI
  have HW0 := Aside0.mk hB.size
  have HB := Aside0.mk hB
  clear hB
  have H : ((spec_l1Next.f s0_0 s0_1 s0_2 8).bind fun bt106 => ((spec_l1Next.f s0_0 bt106.2.1 bt106.2.2 9).bind fun bt109 => ((spec_l1Next.f s0_0 bt109.2.1 bt109.2.2 4).bind fun bt113 => (spec_l15Outcome.l0 k bt113.1 s0_0 bt113.2.1 bt113.2.2 bt106.1 false 0 0 ([] : List Int) bt109.1)))) = some (r1, r2, r3, r4, r5, r6, r7, r8) := h
  clear h
  replace H := Option.bind_eq_some_iff.mp H
  obtain ⟨⟨t106, t107, t108⟩, A20, H⟩ := H
  replace H : ((spec_l1Next.f s0_0 t107 t108 9).bind fun bt109 => ((spec_l1Next.f s0_0 bt109.2.1 bt109.2.2 4).bind fun bt113 => (spec_l15Outcome.l0 k bt113.1 s0_0 bt113.2.1 bt113.2.2 t106 false 0 0 ([] : List Int) bt109.1))) = some (r1, r2, r3, r4, r5, r6, r7, r8) := H
  have A2 := Aside0.mk A20
  clear A20
  replace H := Option.bind_eq_some_iff.mp H
  obtain ⟨⟨t109, t110, t111⟩, A30, H⟩ := H
  replace H : ((spec_l1Next.f s0_0 t110 t111 4).bind fun bt113 => (spec_l15Outcome.l0 k bt113.1 s0_0 bt113.2.1 bt113.2.2 t106 false 0 0 ([] : List Int) t109)) = some (r1, r2, r3, r4, r5, r6, r7, r8) := H
  have A3 := Aside0.mk A30
  clear A30
  replace H := Option.bind_eq_some_iff.mp H
  obtain ⟨⟨t113, t114, t115⟩, A40, H⟩ := H
  replace H : (spec_l15Outcome.l0 k t113 s0_0 t114 t115 t106 false 0 0 ([] : List Int) t109) = some (r1, r2, r3, r4, r5, r6, r7, r8) := H
  have A4 := Aside0.mk A40
  clear A40
  have H' := Aside0.mk H
  clear H
  go_enter Try.func77, Try.ntmps77
  go_wp2_with (first | ((with_reducible refine gate_dst (N := 2) rfl ?_); refine box_event ?hg (N := 2) ?hd (cs := #[.int .i64 0, .bool false, .int .i64 0, .int .u64 0, .slice none 0 0, .int .i64 0]) (t := 53) ?hr ?_; (case hd => rfl); (case hg => rfl); (case hr => first | (go_simp; done) | (go_simp; rfl)); intro gb105 hg w5 hbox hb; have n0_ := Aside0.mk (IsS138.below (by repeat (first | (with_reducible first | exact HI0.out | apply IsS138.alloc | apply IsS138.drewN | apply IsS138.drew | apply IsS138.set_1 | apply IsS138.set_2) | exact HI0.out)) hb); have n1_ := Aside0.mk (KeepBut.trans (by repeat (first | (with_reducible first | exact HK.out | apply KeepBut.set_ | apply keep_drewN | apply keep_drew | apply keep_alloc) | exact HK.out)) (KeepBut.of_below hb g none) (.inl rfl)); have n2_ := Aside0.mk (below_step (by repeat (first | (with_reducible first | exact HB.out | apply below_alloc | apply pw_below_drewN | apply below_drew1 | refine below_set ?_ (IsS138.ge HI0.out)) | exact HB.out)) hb); have n3_ := Aside0.mk (hbox); have n4_ := Aside0.mk ((by rw [hg]; exact (keep_size (w := w) (g := g) (row := none) (by repeat (first | (with_reducible first | exact HK.out | apply KeepBut.set_ | apply keep_drewN | apply keep_drew | apply keep_alloc) | exact HK.out))) : w.heap.size ≤ gb105)); have n5_ := Aside0.mk ((Nat.le_trans HW0.out (by rw [hg]; exact (keep_size (w := w) (g := g) (row := none) (by repeat (first | (with_reducible first | exact HK.out | apply KeepBut.set_ | apply keep_drewN | apply keep_drew | apply keep_alloc) | exact HK.out))) : w.heap.size ≤ gb105) : w0.heap.size ≤ gb105)); have n6_ := Aside0.mk ((by rw [hg]; exact Nat.ne_of_lt (IsS138.lt (show IsS138 w0 _ g s0_0 s0_1 s0_2 from by repeat (first | (with_reducible first | exact HI0.out | apply IsS138.alloc | apply IsS138.drewN | apply IsS138.drew | apply IsS138.set_1 | apply IsS138.set_2) | exact HI0.out))) : g ≠ gb105)); have n7_ := Aside0.mk ((by rw [hg]; exact Nat.ne_of_gt (IsS138.lt (show IsS138 w0 _ g s0_0 s0_1 s0_2 from by repeat (first | (with_reducible first | exact HI0.out | apply IsS138.alloc | apply IsS138.drewN | apply IsS138.drew | apply IsS138.set_1 | apply IsS138.set_2) | exact HI0.out))) : gb105 ≠ g)); clear HI0; clear HK; clear HB; have HI0 := n0_; have HK := n1_; have HB := n2_; have BK105 := n3_; have GW105 := n4_; have GE105 := n5_; have NB0_105 := n6_; have NB105_0 := n7_; clear n0_ n1_ n2_ n3_ n4_ n5_ n6_ n7_; clear hb hbox hg) | ((with_reducible refine gate_callee (f := 79) rfl ?_); refine goesL_ (some 6) rfl rfl Try.func79 (by kernel_rfl) rfl #[.pointer (some ⟨g, 0, none⟩), .int .i64 8] rfl (by (try simp only [List.map_toArray, List.map_cons, List.map_nil]); first | done | rfl | (simp only [List.length_drop, List.length_take]; rfl)) ?_; (with_reducible refine (spec_l1Next.calls g s0_0 s0_1 s0_2 8 t106 t107 t108 w0 _ ?side1 ?side2 A2.out).mono ?_); (case side1 => repeat (first | (with_reducible first | exact HI0.out | apply IsS138.alloc | apply IsS138.drewN | apply IsS138.drew | apply IsS138.set_1 | apply IsS138.set_2 | refine IsS138.far ?_ NB0_105.out _) | exact HI0.out)); (case side2 => repeat (first | (with_reducible first | exact HB.out | apply below_alloc | apply pw_below_drewN | apply below_drew1 | refine below_set ?_ (IsS138.ge HI0.out) | refine below_set ?_ GE105.out) | exact HB.out)); rintro e w6 ⟨rfl, hi, hb, hk⟩; refine ⟨_, rfl, ?_⟩; have n0_ := Aside0.mk (KeepBut.blk hk (g' := gb105) (o := .cells #[.int .i64 0, .bool false, .int .i64 0, .int .u64 0, .slice none 0 0, .int .i64 0] 53 (0, 0)) (by (with_reducible repeat (first | refine blk_drewN ?_ _ | refine blk_drew ?_ | refine blk_alloc ?_ _)); exact BK105.out) NB105_0.out (by simp)); have n1_ := Aside0.mk (KeepBut.trans (by repeat (first | (with_reducible first | exact HK.out | apply KeepBut.set_ | apply keep_drewN | apply keep_drew | apply keep_alloc | refine keep_far ?_ GW105.out _) | exact HK.out)) hk (.inl rfl)); have n2_ := Aside0.mk (hb); have n3_ := Aside0.mk (hi); clear BK105; clear HK; clear HB; clear HI0; have BK105 := n0_; have HK := n1_; have HB := n2_; have HI0 := n3_; clear n0_ n1_ n2_ n3_; (try clear hb); (try clear hb2); (try clear hk); (try clear hi)) | ((with_reducible refine gate_callee (f := 79) rfl ?_); refine goesL_ (some 8) rfl rfl Try.func79 (by kernel_rfl) rfl #[.pointer (some ⟨g, 0, none⟩), .int .i64 9] rfl (by (try simp only [List.map_toArray, List.map_cons, List.map_nil]); first | done | rfl | (simp only [List.length_drop, List.length_take]; rfl)) ?_; (with_reducible refine (spec_l1Next.calls g s0_0 t107 t108 9 t109 t110 t111 w0 _ ?side1 ?side2 A3.out).mono ?_); (case side1 => repeat (first | (with_reducible first | exact HI0.out | apply IsS138.alloc | apply IsS138.drewN | apply IsS138.drew | apply IsS138.set_1 | apply IsS138.set_2 | refine IsS138.far ?_ NB0_105.out _) | exact HI0.out)); (case side2 => repeat (first | (with_reducible first | exact HB.out | apply below_alloc | apply pw_below_drewN | apply below_drew1 | refine below_set ?_ (IsS138.ge HI0.out) | refine below_set ?_ GE105.out) | exact HB.out)); rintro e w7 ⟨rfl, hi, hb, hk⟩; refine ⟨_, rfl, ?_⟩; have n0_ := Aside0.mk (KeepBut.blk hk (g' := gb105) (o := .cells #[.int .i64 0, .bool false, .int .i64 0, .int .u64 0, .slice none 0 0, .int .i64 0] 53 (0, 0)) (by (with_reducible repeat (first | refine blk_drewN ?_ _ | refine blk_drew ?_ | refine blk_alloc ?_ _)); exact BK105.out) NB105_0.out (by simp)); have n1_ := Aside0.mk (KeepBut.trans (by repeat (first | (with_reducible first | exact HK.out | apply KeepBut.set_ | apply keep_drewN | apply keep_drew | apply keep_alloc | refine keep_far ?_ GW105.out _) | exact HK.out)) hk (.inl rfl)); have n2_ := Aside0.mk (hb); have n3_ := Aside0.mk (hi); clear BK105; clear HK; clear HB; clear HI0; have BK105 := n0_; have HK := n1_; have HB := n2_; have HI0 := n3_; clear n0_ n1_ n2_ n3_; (try clear hb); (try clear hb2); (try clear hk); (try clear hi)) | ((with_reducible refine gate_dst (N := 3) rfl ?_); refine box_event ?hg (N := 3) ?hd (cs := #[.int .i64 0, .bool false, .int .i64 0, .int .u64 0, .slice none 0 0, .int .i64 0]) (t := 53) ?hr ?_; (case hd => rfl); (case hg => rfl); (case hr => first | (go_simp; done) | (go_simp; rfl)); intro gb112 hg w8 hbox hb; have n0_ := Aside0.mk (IsS138.below (by repeat (first | (with_reducible first | exact HI0.out | apply IsS138.alloc | apply IsS138.drewN | apply IsS138.drew | apply IsS138.set_1 | apply IsS138.set_2 | refine IsS138.far ?_ NB0_105.out _) | exact HI0.out)) hb); have n1_ := Aside0.mk (blk_below (g := gb105) (o := .cells #[.int .i64 0, .bool false, .int .i64 0, .int .u64 0, .slice none 0 0, .int .i64 0] 53 (0, 0)) (by (with_reducible repeat (first | refine blk_drewN ?_ _ | refine blk_drew ?_ | refine blk_alloc ?_ _)); exact BK105.out) hb); have n2_ := Aside0.mk (KeepBut.trans (by repeat (first | (with_reducible first | exact HK.out | apply KeepBut.set_ | apply keep_drewN | apply keep_drew | apply keep_alloc | refine keep_far ?_ GW105.out _) | exact HK.out)) (KeepBut.of_below hb g none) (.inl rfl)); have n3_ := Aside0.mk (below_step (by repeat (first | (with_reducible first | exact HB.out | apply below_alloc | apply pw_below_drewN | apply below_drew1 | refine below_set ?_ (IsS138.ge HI0.out) | refine below_set ?_ GE105.out) | exact HB.out)) hb); have n4_ := Aside0.mk (hbox); have n5_ := Aside0.mk ((by rw [hg]; exact (keep_size (w := w) (g := g) (row := none) (by repeat (first | (with_reducible first | exact HK.out | apply KeepBut.set_ | apply keep_drewN | apply keep_drew | apply keep_alloc | refine keep_far ?_ GW105.out _) | exact HK.out))) : w.heap.size ≤ gb112)); have n6_ := Aside0.mk ((Nat.le_trans HW0.out (by rw [hg]; exact (keep_size (w := w) (g := g) (row := none) (by repeat (first | (with_reducible first | exact HK.out | apply KeepBut.set_ | apply keep_drewN | apply keep_drew | apply keep_alloc | refine keep_far ?_ GW105.out _) | exact HK.out))) : w.heap.size ≤ gb112) : w0.heap.size ≤ gb112)); have n7_ := Aside0.mk ((by rw [hg]; exact Nat.ne_of_lt (blk_lt (g := gb105) (o := .cells #[.int .i64 0, .bool false, .int .i64 0, .int .u64 0, .slice none 0 0, .int .i64 0] 53 (0, 0)) (by (with_reducible repeat (first | refine blk_drewN ?_ _ | refine blk_drew ?_ | refine blk_alloc ?_ _)); exact BK105.out)) : gb105 ≠ gb112)); have n8_ := Aside0.mk ((by rw [hg]; exact Nat.ne_of_gt (blk_lt (g := gb105) (o := .cells #[.int .i64 0, .bool false, .int .i64 0, .int .u64 0, .slice none 0 0, .int .i64 0] 53 (0, 0)) (by (with_reducible repeat (first | refine blk_drewN ?_ _ | refine blk_drew ?_ | refine blk_alloc ?_ _)); exact BK105.out)) : gb112 ≠ gb105)); have n9_ := Aside0.mk ((by rw [hg]; exact Nat.ne_of_lt (IsS138.lt (show IsS138 w0 _ g s0_0 t110 t111 from by repeat (first | (with_reducible first | exact HI0.out | apply IsS138.alloc | apply IsS138.drewN | apply IsS138.drew | apply IsS138.set_1 | apply IsS138.set_2 | refine IsS138.far ?_ NB0_105.out _) | exact HI0.out))) : g ≠ gb112)); have n10_ := Aside0.mk ((by rw [hg]; exact Nat.ne_of_gt (IsS138.lt (show IsS138 w0 _ g s0_0 t110 t111 from by repeat (first | (with_reducible first | exact HI0.out | apply IsS138.alloc | apply IsS138.drewN | apply IsS138.drew | apply IsS138.set_1 | apply IsS138.set_2 | refine IsS138.far ?_ NB0_105.out _) | exact HI0.out))) : gb112 ≠ g)); clear HI0; clear BK105; clear HK; clear HB; have HI0 := n0_; have BK105 := n1_; have HK := n2_; have HB := n3_; have BK112 := n4_; have GW112 := n5_; have GE112 := n6_; have NB105_112 := n7_; have NB112_105 := n8_; have NB0_112 := n9_; have NB112_0 := n10_; clear n0_ n1_ n2_ n3_ n4_ n5_ n6_ n7_ n8_ n9_ n10_; clear hb hbox hg; have hnb9 := NB112_105.out; have hnc9 := NB105_112.out; have hnb10 := NB112_0.out; have hnc10 := NB0_112.out; have hcz11_0 : w8.cell? ⟨gb112, 0, none⟩ = some (.int .i64 0) := (blk_cell BK112.out 0).trans rfl; have hcz11_1 : w8.cell? ⟨gb112, 1, none⟩ = some (.bool false) := (blk_cell BK112.out 1).trans rfl; have hcz11_2 : w8.cell? ⟨gb112, 2, none⟩ = some (.int .i64 0) := (blk_cell BK112.out 2).trans rfl; have hcz11_3 : w8.cell? ⟨gb112, 3, none⟩ = some (.int .u64 0) := (blk_cell BK112.out 3).trans rfl; have hcz11_4 : w8.cell? ⟨gb112, 4, none⟩ = some (.slice none 0 0) := (blk_cell BK112.out 4).trans rfl; have hcz11_5 : w8.cell? ⟨gb112, 5, none⟩ = some (.int .i64 0) := (blk_cell BK112.out 5).trans rfl; have hfz11_0 := blk_frozen BK112.out 0; have hfz11_1 := blk_frozen BK112.out 1; have hfz11_2 := blk_frozen BK112.out 2; have hfz11_3 := blk_frozen BK112.out 3; have hfz11_4 := blk_frozen BK112.out 4; have hfz11_5 := blk_frozen BK112.out 5) | ((with_reducible refine gate_callee (f := 79) rfl ?_); refine goesL_ (some 11) rfl rfl Try.func79 (by kernel_rfl) rfl #[.pointer (some ⟨g, 0, none⟩), .int .i64 4] rfl (by (try simp only [List.map_toArray, List.map_cons, List.map_nil]); first | done | rfl | (simp only [List.length_drop, List.length_take]; rfl)) ?_; (with_reducible refine (spec_l1Next.calls g s0_0 t110 t111 4 t113 t114 t115 w0 _ ?side1 ?side2 A4.out).mono ?_); (case side1 => repeat (first | (with_reducible first | exact HI0.out | apply IsS138.alloc | apply IsS138.drewN | apply IsS138.drew | apply IsS138.set_1 | apply IsS138.set_2 | refine IsS138.far ?_ NB0_105.out _ | refine IsS138.far ?_ NB0_112.out _) | exact HI0.out)); (case side2 => repeat (first | (with_reducible first | exact HB.out | apply below_alloc | apply pw_below_drewN | apply below_drew1 | refine below_set ?_ (IsS138.ge HI0.out) | refine below_set ?_ GE105.out | refine below_set ?_ GE112.out) | exact HB.out)); rintro e w12 ⟨rfl, hi, hb, hk⟩; refine ⟨_, rfl, ?_⟩; have n0_ := Aside0.mk (KeepBut.blk hk (g' := gb105) (o := .cells #[.int .i64 0, .bool false, .int .i64 0, .int .u64 0, .slice none 0 0, .int .i64 0] 53 (0, 0)) (by (with_reducible repeat (first | refine blk_drewN ?_ _ | refine blk_drew ?_ | refine blk_alloc ?_ _)); refine blk_far ?_ NB105_112.out _; (with_reducible repeat (first | refine blk_drewN ?_ _ | refine blk_drew ?_ | refine blk_alloc ?_ _)); refine blk_far ?_ NB105_112.out _; (with_reducible repeat (first | refine blk_drewN ?_ _ | refine blk_drew ?_ | refine blk_alloc ?_ _)); refine blk_far ?_ NB105_112.out _; (with_reducible repeat (first | refine blk_drewN ?_ _ | refine blk_drew ?_ | refine blk_alloc ?_ _)); refine blk_far ?_ NB105_112.out _; (with_reducible repeat (first | refine blk_drewN ?_ _ | refine blk_drew ?_ | refine blk_alloc ?_ _)); refine blk_far ?_ NB105_112.out _; (with_reducible repeat (first | refine blk_drewN ?_ _ | refine blk_drew ?_ | refine blk_alloc ?_ _)); refine blk_far ?_ NB105_112.out _; (with_reducible repeat (first | refine blk_drewN ?_ _ | refine blk_drew ?_ | refine blk_alloc ?_ _)); exact BK105.out) NB105_0.out (by simp)); have n1_ := Aside0.mk (KeepBut.blk hk (g' := gb112) (o := .cells #[.int .i64 t106, .bool false, .int .i64 0, .int .u64 0, .slice none 0 0, .int .i64 t109] 53 (0, 0)) (by (with_reducible repeat (first | refine blk_drewN ?_ _ | refine blk_drew ?_ | refine blk_alloc ?_ _)); refine blk_put (cs := #[.int .i64 t106, .bool false, .int .i64 0, .int .u64 0, .slice none 0 0, .int .i64 0]) ?_ 5 _ rfl; (with_reducible repeat (first | refine blk_drewN ?_ _ | refine blk_drew ?_ | refine blk_alloc ?_ _)); refine blk_put (cs := #[.int .i64 t106, .bool false, .int .i64 0, .int .u64 0, .slice none 0 0, .int .i64 0]) ?_ 4 _ rfl; (with_reducible repeat (first | refine blk_drewN ?_ _ | refine blk_drew ?_ | refine blk_alloc ?_ _)); refine blk_put (cs := #[.int .i64 t106, .bool false, .int .i64 0, .int .u64 0, .slice none 0 0, .int .i64 0]) ?_ 3 _ rfl; (with_reducible repeat (first | refine blk_drewN ?_ _ | refine blk_drew ?_ | refine blk_alloc ?_ _)); refine blk_put (cs := #[.int .i64 t106, .bool false, .int .i64 0, .int .u64 0, .slice none 0 0, .int .i64 0]) ?_ 2 _ rfl; (with_reducible repeat (first | refine blk_drewN ?_ _ | refine blk_drew ?_ | refine blk_alloc ?_ _)); refine blk_put (cs := #[.int .i64 t106, .bool false, .int .i64 0, .int .u64 0, .slice none 0 0, .int .i64 0]) ?_ 1 _ rfl; (with_reducible repeat (first | refine blk_drewN ?_ _ | refine blk_drew ?_ | refine blk_alloc ?_ _)); refine blk_put (cs := #[.int .i64 0, .bool false, .int .i64 0, .int .u64 0, .slice none 0 0, .int .i64 0]) ?_ 0 _ rfl; (with_reducible repeat (first | refine blk_drewN ?_ _ | refine blk_drew ?_ | refine blk_alloc ?_ _)); exact BK112.out) NB112_0.out (by simp)); have n2_ := Aside0.mk (KeepBut.trans (by repeat (first | (with_reducible first | exact HK.out | apply KeepBut.set_ | apply keep_drewN | apply keep_drew | apply keep_alloc | refine keep_far ?_ GW105.out _ | refine keep_far ?_ GW112.out _) | exact HK.out)) hk (.inl rfl)); have n3_ := Aside0.mk (hb); have n4_ := Aside0.mk (hi); clear BK105; clear BK112; clear HK; clear HB; clear HI0; have BK105 := n0_; have BK112 := n1_; have HK := n2_; have HB := n3_; have HI0 := n4_; clear n0_ n1_ n2_ n3_ n4_; (try clear hb); (try clear hb2); (try clear hk); (try clear hi)))
  go_loopg [4] k (fun kq v4 w' => ∃ (x4_1 : Int) (x1001_1 : Int) (x1002_1 : Int) (x113004_1 : List Int) (u113004 : Value), v4 = .int .i64 x4_1 ∧ Aside0 (spec_l15Outcome.l0 kq x4_1 s0_0 x1001_1 x1002_1 t106 false 0 0 x113004_1 t109 = some (r1, r2, r3, r4, r5, r6, r7, r8)) ∧ Aside0 (kq ≤ k) ∧ Aside0 (Kd.R (Kd.int .u64) 38 w' w.heap.size (fun _ => True) u113004 x113004_1) ∧ Aside0 (w'.heap[gb105]? = some (.cells #[.int .i64 0, .bool false, .int .i64 0, .int .u64 0, (.slice none 0 0), .int .i64 0] 53 (0, 0))) ∧ Aside0 (w'.heap[gb112]? = some (.cells #[.int .i64 t106, .bool false, .int .i64 0, .int .u64 0, u113004, .int .i64 t109] 53 (0, 0))) ∧ Aside0 (IsS138 w0 w' g s0_0 x1001_1 x1002_1) ∧ Aside0 (KeepBut w w' g none) ∧ Aside0 (Below w0.heap.size w0 w'))
  case atStart => exact ⟨(t113), (t114), (t115), (([] : List Int)), (.slice none 0 0), (by first | rfl | (simp; done) | (simp [*]; done)), H', ⟨Nat.le_refl _⟩, ⟨by first | exact Kd.R_nil _ _ _ _ _ | exact Kd.N_nil _ _ _ _ _ | exact Kd.V_nil _ _ _ _ _ | exact Kd.Q_nil _ _ _ _ _ | exact Kd.S_nil _ _ _ _ _⟩, ⟨by (with_reducible repeat (first | refine blk_drewN ?_ _ | refine blk_drew ?_ | refine blk_alloc ?_ _)); exact BK105.out⟩, ⟨by (with_reducible repeat (first | refine blk_drewN ?_ _ | refine blk_drew ?_ | refine blk_alloc ?_ _)); exact BK112.out⟩, ⟨by repeat (first | (with_reducible first | exact HI0.out | apply IsS138.alloc | apply IsS138.drewN | apply IsS138.drew | apply IsS138.set_1 | apply IsS138.set_2 | refine IsS138.far ?_ NB0_105.out _ | refine IsS138.far ?_ NB0_112.out _) | exact HI0.out)⟩, ⟨by repeat (first | (with_reducible first | exact HK.out | apply KeepBut.set_ | apply keep_drewN | apply keep_drew | apply keep_alloc | refine keep_far ?_ GW105.out _ | refine keep_far ?_ GW112.out _) | exact HK.out)⟩, ⟨by repeat (first | (with_reducible first | exact HB.out | apply below_alloc | apply pw_below_drewN | apply below_drew1 | refine below_set ?_ (IsS138.ge HI0.out) | refine below_set ?_ GE105.out | refine below_set ?_ GE112.out) | exact HB.out)⟩⟩
  case round =>
    clear H'
    try clear c1
    try clear p2
    try clear c7
    try clear c9
    try clear c10
    try clear hcz11_0
    try clear hcz11_1
    try clear hcz11_2
    try clear hcz11_3
    try clear hcz11_4
    try clear hcz11_5
    try clear hfz11_0
    try clear hfz11_1
    try clear hfz11_2
    try clear hfz11_3
    try clear hfz11_4
    try clear hfz11_5
    obtain ⟨x4_1, x1001_1, x1002_1, x113004_1, u113004, rfl, HA, HK1, HO_113004, BK105, BK112, HI0, HK, HB⟩ := hrel
    cases gk with
    | zero => exact absurd HA.out (by simp [spec_l15Outcome.l0])
    | succ k1 =>
      have H := HA.out
      clear HA
      simp only [spec_l15Outcome.l0] at H
      by_cases c13 : x4_1 > 0
      · rw [if_pos c13] at H
        have c13b0 : decide (0 < x4_1) = true := decide_eq_true c13
        clear c13
        replace H := Option.bind_eq_some_iff.mp H
        obtain ⟨⟨t116, t117, t118⟩, A140, H⟩ := H
        replace H : (if x113004_1.length < 17592186044416 then (spec_l15Outcome.l0 k1 (wrap64 (x4_1 - 1)) s0_0 t117 t118 t106 false 0 0 (x113004_1 ++ [IntKind.u64.wrap (t116)]) t109) else (none)) = some (r1, r2, r3, r4, r5, r6, r7, r8) := H
        have A14 := Aside0.mk A140
        clear A140
        by_cases c15 : x113004_1.length < 17592186044416
        · rw [if_pos c15] at H
          have LMc15 := Aside0.mk c15
          clear c15
          obtain ⟨y119, hy119⟩ : ∃ y_ : List Int, y_ = (x113004_1 ++ [IntKind.u64.wrap (t116)]) := ⟨_, rfl⟩
          replace H : (spec_l15Outcome.l0 k1 (wrap64 (x4_1 - 1)) s0_0 t117 t118 t106 false 0 0 y119 t109) = some (r1, r2, r3, r4, r5, r6, r7, r8) := by first | (rw [hy119]; with_reducible exact H) | (have H2_ := (Option.bind_some _ _).symm.trans H; rw [hy119]; with_reducible exact H2_) | (have H2_ := (Option.bind_some _ _).symm.trans H; with_reducible exact H2_) | with_reducible exact H | (rw [hy119]; exact H) | exact H
          have Ny119 := Aside0.mk hy119
          clear hy119
          have H' := Aside0.mk H
          clear H
          try go_wp2
          have n0_ := Aside0.mk (Kd.R_drew HO_113004.out)
          have n1_ := Aside0.mk (blk_drew BK105.out)
          have n2_ := Aside0.mk (blk_drew BK112.out)
          have n3_ := Aside0.mk (IsS138.drew HI0.out)
          have n4_ := Aside0.mk (keep_drew HK.out)
          have n5_ := Aside0.mk (below_drew1 HB.out)
          clear HO_113004
          clear BK105
          clear BK112
          clear HI0
          clear HK
          clear HB
          have HO_113004 := n0_
          have BK105 := n1_
          have BK112 := n2_
          have HI0 := n3_
          have HK := n4_
          have HB := n5_
          clear n0_ n1_ n2_ n3_ n4_ n5_
          refine start_ (n := 9) (S := fun w' => w'.cell? ⟨gb112, 0, none⟩ = some (.int .i64 t106) ∧ w'.cell? ⟨gb112, 1, none⟩ = some (.bool false) ∧ w'.cell? ⟨gb112, 2, none⟩ = some (.int .i64 0) ∧ w'.cell? ⟨gb112, 3, none⟩ = some (.int .u64 0) ∧ w'.cell? ⟨gb112, 4, none⟩ = some (u113004) ∧ w'.cell? ⟨gb112, 5, none⟩ = some (.int .i64 t109)) (ds := [8]) #[false, false, false, false, false, false, false, false, false] (by kernel_rfl) rfl rfl ⟨(blk_cell BK112.out 0).trans rfl, (blk_cell BK112.out 1).trans rfl, (blk_cell BK112.out 2).trans rfl, (blk_cell BK112.out 3).trans rfl, (blk_cell BK112.out 4).trans rfl, (blk_cell BK112.out 5).trans rfl⟩ (fun hHeld => ?_); refine with_tabW spec_l15Outcome.tab5 spec_l15Outcome.bits5 (fun HT_ HW_ => ?_)
          generalize wr.drew = w16 at HO_113004 BK105 BK112 HI0 HK HB hHeld ⊢
          refine pure_ (i := 0) (N := some 16) (v := ?_) (a' := ?_) #[true, false, false, false, false, false, false, false, false] rfl rfl (any_of HT_.out (by kernel_rfl)) (fun _ _ _ h => h) (Or.inl ⟨by rfl, ?_⟩) ?_ ?_
          rotate_left
          · intro w'
            go_simp
            with_reducible rfl
          rotate_left
          · simp only [Act.put, List.setIfInBounds_toArray, List.set_cons_zero, List.set_cons_succ, i64_w, i32_w]
            rfl
          refine pure_ (i := 2) (N := some 18) (v := ?_) (a' := ?_) #[true, false, true, false, false, false, false, false, false] rfl rfl (any_of HT_.out (by kernel_rfl)) (fun _ _ _ h => h) (Or.inl ⟨by rfl, ?_⟩) ?_ ?_
          rotate_left
          · intro w'
            go_simp
            with_reducible rfl
          rotate_left
          · simp only [Act.put, List.setIfInBounds_toArray, List.set_cons_zero, List.set_cons_succ, i64_w, i32_w]
            rfl
          refine take_ (i := 1) (N := some 17) (v := ?_) (a' := ?_) #[true, true, true, false, false, false, false, false, false] rfl rfl (take_ofW HT_.out HW_.out (by kernel_rfl)) (fun _ _ _ h => h) (Or.inl ⟨by rfl, ?_⟩) hHeld ?_ ?_
          rotate_left
          · rintro w' ⟨s0, s1, s2, s3, s4, s5⟩
            go_simp
            with_reducible rfl
          rotate_left
          · simp only [Act.put, List.setIfInBounds_toArray, List.set_cons_zero, List.set_cons_succ, i64_w, i32_w]
            rfl
          refine one_ (i := 3) (N := some 19) #[true, true, true, true, false, false, false, false, false] rfl rfl (one_of HT_.out (by kernel_rfl)) (by decide) (fun K hK => ?_)
          refine goes_ Try.func79 (by kernel_rfl) rfl #[.pointer (some ⟨g, 0, none⟩), .int .i64 3] (by rfl) rfl rfl (by (try simp only [List.map_toArray, List.map_cons, List.map_nil]); first | done | rfl | (simp only [List.length_drop, List.length_take]; rfl)) ?_
          with_reducible refine (spec_l1Next.calls g s0_0 x1001_1 x1002_1 3 t116 t117 t118 w0 _ ?side1 ?side2 A14.out).mono ?_
          (case side1 => repeat (first | (with_reducible first | exact HI0.out | apply IsS138.alloc | apply IsS138.drewN | apply IsS138.drew | apply IsS138.set_1 | apply IsS138.set_2 | refine IsS138.far ?_ NB0_105.out _ | refine IsS138.far ?_ NB0_112.out _) | exact HI0.out))
          (case side2 => repeat (first | (with_reducible first | exact HB.out | apply below_alloc | apply pw_below_drewN | apply below_drew1 | refine below_set ?_ (IsS138.ge HI0.out) | refine below_set ?_ GE105.out | refine below_set ?_ GE112.out) | exact HB.out))
          rintro e w17 ⟨rfl, hi, hb, hk⟩
          refine ⟨_, rfl, ?_⟩
          have n0_ := Aside0.mk (Kd.R_mono (Kd.R_keep (IsS138.apart (show IsS138 w0 _ g s0_0 x1001_1 x1002_1 from by repeat (first | (with_reducible first | exact HI0.out | apply IsS138.alloc | apply IsS138.drewN | apply IsS138.drew | apply IsS138.set_1 | apply IsS138.set_2 | refine IsS138.far ?_ NB0_105.out _ | refine IsS138.far ?_ NB0_112.out _) | exact HI0.out)) (by (with_reducible repeat (first | apply Kd.R_alloc | apply Kd.R_drewN | apply Kd.R_drew)); exact HO_113004.out) (by decide)) hk (fun _ h => h.2)) (fun _ h => h.1))
          have n1_ := Aside0.mk (KeepBut.blk hk (g' := gb105) (o := .cells #[.int .i64 0, .bool false, .int .i64 0, .int .u64 0, .slice none 0 0, .int .i64 0] 53 (0, 0)) (by (with_reducible repeat (first | refine blk_drewN ?_ _ | refine blk_drew ?_ | refine blk_alloc ?_ _)); exact BK105.out) NB105_0.out (by simp))
          have n2_ := Aside0.mk (KeepBut.blk hk (g' := gb112) (o := .cells #[.int .i64 t106, .bool false, .int .i64 0, .int .u64 0, u113004, .int .i64 t109] 53 (0, 0)) (by (with_reducible repeat (first | refine blk_drewN ?_ _ | refine blk_drew ?_ | refine blk_alloc ?_ _)); exact BK112.out) NB112_0.out (by simp))
          have n3_ := Aside0.mk (KeepBut.trans (by repeat (first | (with_reducible first | exact HK.out | apply KeepBut.set_ | apply keep_drewN | apply keep_drew | apply keep_alloc | refine keep_far ?_ GW105.out _ | refine keep_far ?_ GW112.out _) | exact HK.out)) hk (.inl rfl))
          have n4_ := Aside0.mk (hb)
          have n5_ := Aside0.mk (hi)
          clear HO_113004
          clear BK105
          clear BK112
          clear HK
          clear HB
          clear HI0
          have HO_113004 := n0_
          have BK105 := n1_
          have BK112 := n2_
          have HK := n3_
          have HB := n4_
          have HI0 := n5_
          clear n0_ n1_ n2_ n3_ n4_ n5_
          (try clear hb)
          (try clear hb2)
          (try clear hk)
          (try clear hi)
          refine hK.out _ _ ⟨(blk_cell BK112.out 0).trans rfl, (blk_cell BK112.out 1).trans rfl, (blk_cell BK112.out 2).trans rfl, (blk_cell BK112.out 3).trans rfl, (blk_cell BK112.out 4).trans rfl, (blk_cell BK112.out 5).trans rfl⟩ (fun hHeld => ?_)
          clear hK K
          refine norm_ (a' := ?_) ?_ ?_
          rotate_left
          · show Act.put _ (some 19) _ = _
            simp only [Act.put, List.setIfInBounds_toArray, List.set_cons_zero, List.set_cons_succ, i64_w, i32_w]
            rfl
          refine pure_ (i := 4) (N := some 20) (v := ?_) (a' := ?_) #[true, true, true, true, true, false, false, false, false] rfl rfl (any_of HT_.out (by kernel_rfl)) (fun _ _ _ h => h) (Or.inl ⟨by rfl, ?_⟩) ?_ ?_
          rotate_left
          · intro w'
            go_simp
            with_reducible rfl
          rotate_left
          · simp only [Act.put, List.setIfInBounds_toArray, List.set_cons_zero, List.set_cons_succ, i64_w, i32_w]
            rfl
          refine one_ (i := 5) (N := some 21) #[true, true, true, true, true, true, false, false, false] rfl rfl (one_of HT_.out (by kernel_rfl)) (by decide) (fun K hK => ?_)
          refine value_ (w1 := ?_) (v := ?_) (by rfl) rfl ?_ ?_
          rotate_left 2
          · go_simp
            constructor
            · rfl
            · rfl
          refine hK.out _ _ ⟨(blk_cell (blk_alloc BK112.out _) 0).trans rfl, (blk_cell (blk_alloc BK112.out _) 1).trans rfl, (blk_cell (blk_alloc BK112.out _) 2).trans rfl, (blk_cell (blk_alloc BK112.out _) 3).trans rfl, (blk_cell (blk_alloc BK112.out _) 4).trans rfl, (blk_cell (blk_alloc BK112.out _) 5).trans rfl⟩ (fun hHeld => ?_)
          clear hK K
          refine norm_ (a' := ?_) ?_ ?_
          rotate_left
          · show Act.put _ (some 21) _ = _
            simp only [Act.put, List.setIfInBounds_toArray, List.set_cons_zero, List.set_cons_succ, i64_w, i32_w]
            rfl
          refine one_ (i := 6) (N := some 22) #[true, true, true, true, true, true, true, false, false] rfl rfl (one_of HT_.out (by kernel_rfl)) (by decide) (fun K hK => ?_)
          refine Kd.R_append_step (Kd.int .u64) w.heap.size (by rfl) (.tmp 17) (.tmp 21) 51 38 (.int .u64 0) 8 rfl Try.underlying51 info38 rfl (by decide) (by omega) u113004 x113004_1 (IntKind.u64.wrap (t116)) [.int .u64 (IntKind.u64.wrap (t116))] (fun _ => True) (fun _ => False) rfl rfl ?aP (fun _ hk => hk.elim) ?aF ?aO (Below.refl _ _) ?aS ?aL ?_
          (case aP => exact rfl)
          (case aF => exact (fun _ _ => trivial))
          (case aO => exact (by (with_reducible repeat (first | apply Kd.R_alloc | apply Kd.R_drewN | apply Kd.R_drew)); exact HO_113004.out))
          (case aS => exact (keep_size (w := w) (g := g) (row := none) (by repeat (first | (with_reducible first | exact HK.out | apply KeepBut.set_ | apply keep_drewN | apply keep_drew | apply keep_alloc | refine keep_far ?_ GW105.out _ | refine keep_far ?_ GW112.out _) | exact HK.out))))
          (case aL => have := LMc15.out; omega)
          intro v120 w18 ho hb hg hat
          rw [← Ny119.out] at ho
          have n0_ := Aside0.mk (blk_grown (g := gb105) (o := .cells #[.int .i64 0, .bool false, .int .i64 0, .int .u64 0, .slice none 0 0, .int .i64 0] 53 (0, 0)) (by (with_reducible repeat (first | refine blk_drewN ?_ _ | refine blk_drew ?_ | refine blk_alloc ?_ _)); exact BK105.out) hg (Kd.R_ne HO_113004.out BK105.out (by decide)))
          have n1_ := Aside0.mk (blk_grown (g := gb112) (o := .cells #[.int .i64 t106, .bool false, .int .i64 0, .int .u64 0, u113004, .int .i64 t109] 53 (0, 0)) (by (with_reducible repeat (first | refine blk_drewN ?_ _ | refine blk_drew ?_ | refine blk_alloc ?_ _)); exact BK112.out) hg (Kd.R_ne HO_113004.out BK112.out (by decide)))
          have n2_ := Aside0.mk (IsS138.grown (by repeat (first | (with_reducible first | exact HI0.out | apply IsS138.alloc | apply IsS138.drewN | apply IsS138.drew | apply IsS138.set_1 | apply IsS138.set_2 | refine IsS138.far ?_ NB0_105.out _ | refine IsS138.far ?_ NB0_112.out _) | exact HI0.out)) hg (IsS138.own_ne HI0.out HO_113004.out (by decide)))
          have n3_ := Aside0.mk (below_weaken (by repeat (first | (with_reducible first | exact HB.out | apply below_alloc | apply pw_below_drewN | apply below_drew1 | refine below_set ?_ (IsS138.ge HI0.out) | refine below_set ?_ GE105.out | refine below_set ?_ GE112.out) | exact HB.out)) HL.out hb)
          have n4_ := Aside0.mk (KeepBut.trans (by repeat (first | (with_reducible first | exact HK.out | apply KeepBut.set_ | apply keep_drewN | apply keep_drew | apply keep_alloc | refine keep_far ?_ GW105.out _ | refine keep_far ?_ GW112.out _) | exact HK.out)) (KeepBut.of_grown hg g) (Kd.R_base2 HO_113004.out))
          have n5_ := Aside0.mk (ho)
          clear BK105
          clear BK112
          clear HI0
          clear HB
          clear HK
          clear HO_113004
          have BK105 := n0_
          have BK112 := n1_
          have HI0 := n2_
          have HB := n3_
          have HK := n4_
          have HO121 := n5_
          clear n0_ n1_ n2_ n3_ n4_ n5_
          clear ho hb hg hat
          obtain ⟨Ao19, co19, eo19⟩ := Kd.R_slice HO121.out
          (first | subst eo19 | (injection eo19 with f1_ f2_ f3_; have f4_ := f1_.symm; have f5_ := f3_.symm; clear f1_ f2_ f3_; subst f4_; subst f5_))
          refine hK.out _ _ ⟨(blk_cell BK112.out 0).trans rfl, (blk_cell BK112.out 1).trans rfl, (blk_cell BK112.out 2).trans rfl, (blk_cell BK112.out 3).trans rfl, (blk_cell BK112.out 4).trans rfl, (blk_cell BK112.out 5).trans rfl⟩ (fun hHeld => ?_)
          clear hK K
          refine norm_ (a' := ?_) ?_ ?_
          rotate_left
          · show Act.put _ (some 22) _ = _
            simp only [Act.put, List.setIfInBounds_toArray, List.set_cons_zero, List.set_cons_succ, i64_w, i32_w]
            rfl
          refine pure_ (i := 7) (N := some 23) (v := ?_) (a' := ?_) #[true, true, true, true, true, true, true, true, false] rfl rfl (any_of HT_.out (by kernel_rfl)) (fun _ _ _ h => h) (Or.inl ⟨by rfl, ?_⟩) ?_ ?_
          rotate_left
          · intro w'
            go_simp
            with_reducible rfl
          rotate_left
          · simp only [Act.put, List.setIfInBounds_toArray, List.set_cons_zero, List.set_cons_succ, i64_w, i32_w]
            rfl
          refine last_ (i := 8) (N := none) #[true, true, true, true, true, true, true, true, true] rfl rfl (one_of HT_.out (by kernel_rfl)) (by decide) (fun K hK => ?_)
          have hs20 : w18.cell? ⟨gb112, 4, none⟩ = some (u113004) := (blk_cell BK112.out 4).trans rfl
          have hfs20 := blk_frozen BK112.out 4
          have hns20_0 := NB105_112.out
          have hms20_0 := NB112_105.out
          refine skip_ (w1 := ?_) (by rfl) rfl ?_ ?_
          rotate_left
          · go_simp
            rfl
          refine hK.out _ _ ?_
          clear hK K
          refine done_ (done_of HT_.out (by kernel_rfl)) ?_
          try go_wp2
          go_roundg k1
          case measure => have := HK1.out; omega
          case rel => exact ⟨(wrap64 (x4_1 - 1)), (t117), (t118), (y119), (.slice Ao19 y119.length co19), (by first | rfl | (simp; done) | (simp [*]; done)), H', ⟨by have := HK1.out; omega⟩, ⟨by (with_reducible repeat (first | apply Kd.R_alloc | apply Kd.R_drewN | apply Kd.R_drew)); exact Kd.R_mono (Kd.R_far (p := ⟨gb112, 4, none⟩) (Kd.R_types HO121.out BK112.out (by decide)) (fun _ hk => hk.2) (.slice Ao19 y119.length co19)) (fun _ hk => trivial)⟩, ⟨by (with_reducible repeat (first | refine blk_drewN ?_ _ | refine blk_drew ?_ | refine blk_alloc ?_ _)); refine blk_far ?_ NB105_112.out _; (with_reducible repeat (first | refine blk_drewN ?_ _ | refine blk_drew ?_ | refine blk_alloc ?_ _)); exact BK105.out⟩, ⟨by (with_reducible repeat (first | refine blk_drewN ?_ _ | refine blk_drew ?_ | refine blk_alloc ?_ _)); refine blk_put (cs := #[.int .i64 t106, .bool false, .int .i64 0, .int .u64 0, u113004, .int .i64 t109]) ?_ 4 _ rfl; (with_reducible repeat (first | refine blk_drewN ?_ _ | refine blk_drew ?_ | refine blk_alloc ?_ _)); exact BK112.out⟩, ⟨by repeat (first | (with_reducible first | exact HI0.out | apply IsS138.alloc | apply IsS138.drewN | apply IsS138.drew | apply IsS138.set_1 | apply IsS138.set_2 | refine IsS138.far ?_ NB0_105.out _ | refine IsS138.far ?_ NB0_112.out _) | exact HI0.out)⟩, ⟨by repeat (first | (with_reducible first | exact HK.out | apply KeepBut.set_ | apply keep_drewN | apply keep_drew | apply keep_alloc | refine keep_far ?_ GW105.out _ | refine keep_far ?_ GW112.out _) | exact HK.out)⟩, ⟨by repeat (first | (with_reducible first | exact HB.out | apply below_alloc | apply pw_below_drewN | apply below_drew1 | refine below_set ?_ (IsS138.ge HI0.out) | refine below_set ?_ GE105.out | refine below_set ?_ GE112.out) | exact HB.out)⟩⟩
        · rw [if_neg c15] at H
          exact absurd H (by simp)
      · rw [if_neg c13] at H
        have c13b0 : decide (0 < x4_1) = false := decide_eq_false c13
        clear c13
        by_cases c21 : t106 = 0
        · rw [if_pos c21] at H
          have c21b0 : (t106 == 0) = true := beq_iff_eq.mpr c21
          have c21b1 : (t106 != 0) = false := bne_eq_false_iff_eq.mpr c21
          clear c21
          replace H := Option.bind_eq_some_iff.mp H
          obtain ⟨⟨t122, t123, t124⟩, A220, H⟩ := H
          replace H : ((some (([(⟨false, 0, IntKind.u64.wrap (t122)⟩ : S50), (⟨true, 0, 0⟩ : S50), (⟨false, 1, 2⟩ : S50), (⟨false, 0, 0⟩ : S50)] : List (S50)) : List (S50))).bind fun y125 => ((spec_l1Next.f s0_0 t123 t124 4).bind fun bt128 => (if 0 ≤ bt128.1 then (if bt128.1 < (y125.length : Int) then (some (t106, (rd_T50 y125 bt128.1).f0, (rd_T50 y125 bt128.1).f1, (rd_T50 y125 bt128.1).f2, x113004_1, t109, bt128.2.1, bt128.2.2)) else (none)) else (none)))) = some (r1, r2, r3, r4, r5, r6, r7, r8) := H
          have A22 := Aside0.mk A220
          clear A220
          obtain ⟨y125, hy125⟩ : ∃ y_ : List (S50), y_ = (([(⟨false, 0, IntKind.u64.wrap (t122)⟩ : S50), (⟨true, 0, 0⟩ : S50), (⟨false, 1, 2⟩ : S50), (⟨false, 0, 0⟩ : S50)] : List (S50))) := ⟨_, rfl⟩
          replace H : ((spec_l1Next.f s0_0 t123 t124 4).bind fun bt128 => (if 0 ≤ bt128.1 then (if bt128.1 < (y125.length : Int) then (some (t106, (rd_T50 y125 bt128.1).f0, (rd_T50 y125 bt128.1).f1, (rd_T50 y125 bt128.1).f2, x113004_1, t109, bt128.2.1, bt128.2.2)) else (none)) else (none))) = some (r1, r2, r3, r4, r5, r6, r7, r8) := by first | (rw [hy125]; with_reducible exact H) | (have H2_ := (Option.bind_some _ _).symm.trans H; rw [hy125]; with_reducible exact H2_) | (have H2_ := (Option.bind_some _ _).symm.trans H; with_reducible exact H2_) | with_reducible exact H | (rw [hy125]; exact H) | exact H
          have Ny125 := Aside0.mk hy125
          clear hy125
          replace H := Option.bind_eq_some_iff.mp H
          obtain ⟨⟨t128, t129, t130⟩, A230, H⟩ := H
          replace H : (if 0 ≤ t128 then (if t128 < (y125.length : Int) then (some (t106, (rd_T50 y125 t128).f0, (rd_T50 y125 t128).f1, (rd_T50 y125 t128).f2, x113004_1, t109, t129, t130)) else (none)) else (none)) = some (r1, r2, r3, r4, r5, r6, r7, r8) := H
          have A23 := Aside0.mk A230
          clear A230
          by_cases c24 : 0 ≤ t128
          · rw [if_pos c24] at H
            have c24b0 : decide (0 ≤ t128) = true := decide_eq_true c24
            clear c24
            by_cases c25 : t128 < (y125.length : Int)
            · rw [if_pos c25] at H
              have c25b0 : decide (t128 < (y125.length : Int)) = true := decide_eq_true c25
              clear c25
              simp only [Option.some.injEq, Prod.mk.injEq] at H
              obtain ⟨rfl, rfl, rfl, rfl, rfl, rfl, rfl, rfl⟩ := H
              have hnb26 := NB112_105.out
              have hnc26 := NB105_112.out
              have hnb27 := NB112_0.out
              have hnc27 := NB0_112.out
              have hcz28_0 : wr.cell? ⟨gb112, 0, none⟩ = some (.int .i64 t106) := (blk_cell BK112.out 0).trans rfl
              have hcz28_1 : wr.cell? ⟨gb112, 1, none⟩ = some (.bool false) := (blk_cell BK112.out 1).trans rfl
              have hcz28_2 : wr.cell? ⟨gb112, 2, none⟩ = some (.int .i64 0) := (blk_cell BK112.out 2).trans rfl
              have hcz28_3 : wr.cell? ⟨gb112, 3, none⟩ = some (.int .u64 0) := (blk_cell BK112.out 3).trans rfl
              have hcz28_4 : wr.cell? ⟨gb112, 4, none⟩ = some (u113004) := (blk_cell BK112.out 4).trans rfl
              have hcz28_5 : wr.cell? ⟨gb112, 5, none⟩ = some (.int .i64 t109) := (blk_cell BK112.out 5).trans rfl
              have hfz28_0 := blk_frozen BK112.out 0
              have hfz28_1 := blk_frozen BK112.out 1
              have hfz28_2 := blk_frozen BK112.out 2
              have hfz28_3 := blk_frozen BK112.out 3
              have hfz28_4 := blk_frozen BK112.out 4
              have hfz28_5 := blk_frozen BK112.out 5
              go_wp2_with (first | ((with_reducible refine gate_callee (f := 79) rfl ?_); refine goesL_ (some 28) rfl rfl Try.func79 (by kernel_rfl) rfl #[.pointer (some ⟨g, 0, none⟩), .int .i64 3] rfl (by (try simp only [List.map_toArray, List.map_cons, List.map_nil]); first | done | rfl | (simp only [List.length_drop, List.length_take]; rfl)) ?_; (with_reducible refine (spec_l1Next.calls g s0_0 x1001_1 x1002_1 3 t122 t123 t124 w0 _ ?side1 ?side2 A22.out).mono ?_); (case side1 => repeat (first | (with_reducible first | exact HI0.out | apply IsS138.alloc | apply IsS138.drewN | apply IsS138.drew | apply IsS138.set_1 | apply IsS138.set_2 | refine IsS138.far ?_ NB0_105.out _ | refine IsS138.far ?_ NB0_112.out _) | exact HI0.out)); (case side2 => repeat (first | (with_reducible first | exact HB.out | apply below_alloc | apply pw_below_drewN | apply below_drew1 | refine below_set ?_ (IsS138.ge HI0.out) | refine below_set ?_ GE105.out | refine below_set ?_ GE112.out) | exact HB.out)); rintro e w29 ⟨rfl, hi, hb, hk⟩; refine ⟨_, rfl, ?_⟩; have n0_ := Aside0.mk (Kd.R_mono (Kd.R_keep (IsS138.apart (show IsS138 w0 _ g s0_0 x1001_1 x1002_1 from by repeat (first | (with_reducible first | exact HI0.out | apply IsS138.alloc | apply IsS138.drewN | apply IsS138.drew | apply IsS138.set_1 | apply IsS138.set_2 | refine IsS138.far ?_ NB0_105.out _ | refine IsS138.far ?_ NB0_112.out _) | exact HI0.out)) (by (with_reducible repeat (first | apply Kd.R_alloc | apply Kd.R_drewN | apply Kd.R_drew)); exact HO_113004.out) (by decide)) hk (fun _ h => h.2)) (fun _ h => h.1)); have n1_ := Aside0.mk (KeepBut.blk hk (g' := gb105) (o := .cells #[.int .i64 0, .bool false, .int .i64 0, .int .u64 0, .slice none 0 0, .int .i64 0] 53 (0, 0)) (by (with_reducible repeat (first | refine blk_drewN ?_ _ | refine blk_drew ?_ | refine blk_alloc ?_ _)); exact BK105.out) NB105_0.out (by simp)); have n2_ := Aside0.mk (KeepBut.blk hk (g' := gb112) (o := .cells #[.int .i64 t106, .bool false, .int .i64 0, .int .u64 0, u113004, .int .i64 t109] 53 (0, 0)) (by (with_reducible repeat (first | refine blk_drewN ?_ _ | refine blk_drew ?_ | refine blk_alloc ?_ _)); exact BK112.out) NB112_0.out (by simp)); have n3_ := Aside0.mk (KeepBut.trans (by repeat (first | (with_reducible first | exact HK.out | apply KeepBut.set_ | apply keep_drewN | apply keep_drew | apply keep_alloc | refine keep_far ?_ GW105.out _ | refine keep_far ?_ GW112.out _) | exact HK.out)) hk (.inl rfl)); have n4_ := Aside0.mk (hb); have n5_ := Aside0.mk (hi); clear HO_113004; clear BK105; clear BK112; clear HK; clear HB; clear HI0; have HO_113004 := n0_; have BK105 := n1_; have BK112 := n2_; have HK := n3_; have HB := n4_; have HI0 := n5_; clear n0_ n1_ n2_ n3_ n4_ n5_; (try clear hb); (try clear hb2); (try clear hk); (try clear hi)) | ((with_reducible refine gate_dst (N := 34) rfl ?_); refine Kd.R_lit k50 _ 50 ?hg (N := 34) ?hd (xs := ([(⟨false, 0, IntKind.u64.wrap (t122)⟩ : S50), (⟨true, 0, 0⟩ : S50), (⟨false, 1, 2⟩ : S50), (⟨false, 0, 0⟩ : S50)] : List (S50))) (inner := [.bool false, .int .i64 0, .int .u64 (IntKind.u64.wrap (t122)), .bool true, .int .i64 0, .int .u64 0, .bool false, .int .i64 1, .int .u64 2, .bool false, .int .i64 0, .int .u64 0]) (ok := fun _ => True) (okp := fun _ => True) ?hr ?hp (fun _ hk => hk) trivial (Below.refl _ _) (Nat.le_refl _) (by simp) ?_; (case hd => rfl); (case hg => rfl); (case hr => first | (go_simp; done) | (go_simp; rfl)); (case hp => exact (Reps.c3 (show Kd.M k50 _ _ _ (⟨false, 0, IntKind.u64.wrap (t122)⟩ : S50) [.bool false, .int .i64 0, .int .u64 (IntKind.u64.wrap (t122))] from (k50_mkM _ _ _ (⟨false, 0, IntKind.u64.wrap (t122)⟩ : S50) )) (Reps.c3 (show Kd.M k50 _ _ _ (⟨true, 0, 0⟩ : S50) [.bool true, .int .i64 0, .int .u64 0] from (k50_mkM _ _ _ (⟨true, 0, 0⟩ : S50) )) (Reps.c3 (show Kd.M k50 _ _ _ (⟨false, 1, 2⟩ : S50) [.bool false, .int .i64 1, .int .u64 2] from (k50_mkM _ _ _ (⟨false, 1, 2⟩ : S50) )) (Reps.c3 (show Kd.M k50 _ _ _ (⟨false, 0, 0⟩ : S50) [.bool false, .int .i64 0, .int .u64 0] from (k50_mkM _ _ _ (⟨false, 0, 0⟩ : S50) )) (Reps.none _ _)))))); intro v126 w30 ho31 hb hg_ hnew_; clear hg_ hnew_; (first | rw [← Ny125.out] at ho31 | (simp only [Int.reduceToNat] at ho31; rw [← Ny125.out] at ho31)); have n0_ := Aside0.mk (Kd.R_below (by (with_reducible repeat (first | apply Kd.R_alloc | apply Kd.R_drewN | apply Kd.R_drew)); exact HO_113004.out) hb); have n1_ := Aside0.mk (Kd.R_lower ho31 (keep_size (w := w) (g := g) (row := none) (by repeat (first | (with_reducible first | exact HK.out | apply KeepBut.set_ | apply keep_drewN | apply keep_drew | apply keep_alloc | refine keep_far ?_ GW105.out _ | refine keep_far ?_ GW112.out _) | exact HK.out)))); have n2_ := Aside0.mk (blk_below (g := gb105) (o := .cells #[.int .i64 0, .bool false, .int .i64 0, .int .u64 0, .slice none 0 0, .int .i64 0] 53 (0, 0)) (by (with_reducible repeat (first | refine blk_drewN ?_ _ | refine blk_drew ?_ | refine blk_alloc ?_ _)); exact BK105.out) hb); have n3_ := Aside0.mk (blk_below (g := gb112) (o := .cells #[.int .i64 t106, .bool false, .int .i64 0, .int .u64 0, u113004, .int .i64 t109] 53 (0, 0)) (by (with_reducible repeat (first | refine blk_drewN ?_ _ | refine blk_drew ?_ | refine blk_alloc ?_ _)); exact BK112.out) hb); have n4_ := Aside0.mk (IsS138.below (by repeat (first | (with_reducible first | exact HI0.out | apply IsS138.alloc | apply IsS138.drewN | apply IsS138.drew | apply IsS138.set_1 | apply IsS138.set_2 | refine IsS138.far ?_ NB0_105.out _ | refine IsS138.far ?_ NB0_112.out _) | exact HI0.out)) hb); have n5_ := Aside0.mk (KeepBut.trans (by repeat (first | (with_reducible first | exact HK.out | apply KeepBut.set_ | apply keep_drewN | apply keep_drew | apply keep_alloc | refine keep_far ?_ GW105.out _ | refine keep_far ?_ GW112.out _) | exact HK.out)) (KeepBut.of_below hb g none) (.inl rfl)); have n6_ := Aside0.mk (below_step (by repeat (first | (with_reducible first | exact HB.out | apply below_alloc | apply pw_below_drewN | apply below_drew1 | refine below_set ?_ (IsS138.ge HI0.out) | refine below_set ?_ GE105.out | refine below_set ?_ GE112.out) | exact HB.out)) hb); clear HO_113004; clear BK105; clear BK112; clear HI0; clear HK; clear HB; have HO_113004 := n0_; have HO127 := n1_; have BK105 := n2_; have BK112 := n3_; have HI0 := n4_; have HK := n5_; have HB := n6_; clear n0_ n1_ n2_ n3_ n4_ n5_ n6_; clear hb ho31) | ((with_reducible refine gate_callee (f := 79) rfl ?_); refine goesL_ (some 36) rfl rfl Try.func79 (by kernel_rfl) rfl #[.pointer (some ⟨g, 0, none⟩), .int .i64 4] rfl (by (try simp only [List.map_toArray, List.map_cons, List.map_nil]); first | done | rfl | (simp only [List.length_drop, List.length_take]; rfl)) ?_; (with_reducible refine (spec_l1Next.calls g s0_0 t123 t124 4 t128 t129 t130 w0 _ ?side1 ?side2 A23.out).mono ?_); (case side1 => repeat (first | (with_reducible first | exact HI0.out | apply IsS138.alloc | apply IsS138.drewN | apply IsS138.drew | apply IsS138.set_1 | apply IsS138.set_2 | refine IsS138.far ?_ NB0_105.out _ | refine IsS138.far ?_ NB0_112.out _) | exact HI0.out)); (case side2 => repeat (first | (with_reducible first | exact HB.out | apply below_alloc | apply pw_below_drewN | apply below_drew1 | refine below_set ?_ (IsS138.ge HI0.out) | refine below_set ?_ GE105.out | refine below_set ?_ GE112.out) | exact HB.out)); rintro e w32 ⟨rfl, hi, hb, hk⟩; refine ⟨_, rfl, ?_⟩; have n0_ := Aside0.mk (Kd.R_mono (Kd.R_keep (IsS138.apart (show IsS138 w0 _ g s0_0 t123 t124 from by repeat (first | (with_reducible first | exact HI0.out | apply IsS138.alloc | apply IsS138.drewN | apply IsS138.drew | apply IsS138.set_1 | apply IsS138.set_2 | refine IsS138.far ?_ NB0_105.out _ | refine IsS138.far ?_ NB0_112.out _) | exact HI0.out)) (by (with_reducible repeat (first | apply Kd.R_alloc | apply Kd.R_drewN | apply Kd.R_drew)); exact HO_113004.out) (by decide)) hk (fun _ h => h.2)) (fun _ h => h.1)); have n1_ := Aside0.mk (KeepBut.blk hk (g' := gb105) (o := .cells #[.int .i64 0, .bool false, .int .i64 0, .int .u64 0, .slice none 0 0, .int .i64 0] 53 (0, 0)) (by (with_reducible repeat (first | refine blk_drewN ?_ _ | refine blk_drew ?_ | refine blk_alloc ?_ _)); exact BK105.out) NB105_0.out (by simp)); have n2_ := Aside0.mk (KeepBut.blk hk (g' := gb112) (o := .cells #[.int .i64 t106, .bool false, .int .i64 0, .int .u64 0, u113004, .int .i64 t109] 53 (0, 0)) (by (with_reducible repeat (first | refine blk_drewN ?_ _ | refine blk_drew ?_ | refine blk_alloc ?_ _)); exact BK112.out) NB112_0.out (by simp)); have n3_ := Aside0.mk (Kd.R_mono (Kd.R_keep (IsS138.apart (show IsS138 w0 _ g s0_0 t123 t124 from by repeat (first | (with_reducible first | exact HI0.out | apply IsS138.alloc | apply IsS138.drewN | apply IsS138.drew | apply IsS138.set_1 | apply IsS138.set_2 | refine IsS138.far ?_ NB0_105.out _ | refine IsS138.far ?_ NB0_112.out _) | exact HI0.out)) (by (with_reducible repeat (first | apply Kd.R_alloc | apply Kd.R_drewN | apply Kd.R_drew)); exact HO127.out) (by decide)) hk (fun _ h => h.2)) (fun _ h => h.1)); have n4_ := Aside0.mk (KeepBut.trans (by repeat (first | (with_reducible first | exact HK.out | apply KeepBut.set_ | apply keep_drewN | apply keep_drew | apply keep_alloc | refine keep_far ?_ GW105.out _ | refine keep_far ?_ GW112.out _) | exact HK.out)) hk (.inl rfl)); have n5_ := Aside0.mk (hb); have n6_ := Aside0.mk (hi); clear HO_113004; clear BK105; clear BK112; clear HO127; clear HK; clear HB; clear HI0; have HO_113004 := n0_; have BK105 := n1_; have BK112 := n2_; have HO127 := n3_; have HK := n4_; have HB := n5_; have HI0 := n6_; clear n0_ n1_ n2_ n3_ n4_ n5_ n6_; (try clear hb); (try clear hb2); (try clear hk); (try clear hi); obtain ⟨Ao33, co33, eo33⟩ := Kd.R_slice HO127.out; subst eo33; have p131 : 0 ≤ (t128 : Int) := of_decide_eq_true (by first | (with_reducible assumption) | assumption); have q131 : t128 < (y125.length : Int) := of_decide_eq_true (by first | (with_reducible assumption) | assumption); obtain ⟨ad131, e131, hx131_0, hx131_1, hx131_2⟩ := at_T50 (Kd.R_reads' HO127.out).2.2 t128 p131 q131; cases e131; replace p131 := eq_true p131; replace q131 := eq_true q131; have hcz34_0 : w32.cell? ⟨gb112, 0, none⟩ = some (.int .i64 t106) := (blk_cell BK112.out 0).trans rfl; have hcz34_1 : w32.cell? ⟨gb112, 1, none⟩ = some (.bool false) := (blk_cell BK112.out 1).trans rfl; have hcz34_2 : w32.cell? ⟨gb112, 2, none⟩ = some (.int .i64 0) := (blk_cell BK112.out 2).trans rfl; have hcz34_3 : w32.cell? ⟨gb112, 3, none⟩ = some (.int .u64 0) := (blk_cell BK112.out 3).trans rfl; have hcz34_4 : w32.cell? ⟨gb112, 4, none⟩ = some (u113004) := (blk_cell BK112.out 4).trans rfl; have hcz34_5 : w32.cell? ⟨gb112, 5, none⟩ = some (.int .i64 t109) := (blk_cell BK112.out 5).trans rfl; have hfz34_0 := blk_frozen BK112.out 0; have hfz34_1 := blk_frozen BK112.out 1; have hfz34_2 := blk_frozen BK112.out 2; have hfz34_3 := blk_frozen BK112.out 3; have hfz34_4 := blk_frozen BK112.out 4; have hfz34_5 := blk_frozen BK112.out 5; have hnb35 := NB105_0.out; have hnc35 := NB0_105.out; have hcz36_0 : w32.cell? ⟨gb105, 0, none⟩ = some (.int .i64 0) := (blk_cell BK105.out 0).trans rfl; have hcz36_1 : w32.cell? ⟨gb105, 1, none⟩ = some (.bool false) := (blk_cell BK105.out 1).trans rfl; have hcz36_2 : w32.cell? ⟨gb105, 2, none⟩ = some (.int .i64 0) := (blk_cell BK105.out 2).trans rfl; have hcz36_3 : w32.cell? ⟨gb105, 3, none⟩ = some (.int .u64 0) := (blk_cell BK105.out 3).trans rfl; have hcz36_4 : w32.cell? ⟨gb105, 4, none⟩ = some (.slice none 0 0) := (blk_cell BK105.out 4).trans rfl; have hcz36_5 : w32.cell? ⟨gb105, 5, none⟩ = some (.int .i64 0) := (blk_cell BK105.out 5).trans rfl; have hfz36_0 := blk_frozen BK105.out 0; have hfz36_1 := blk_frozen BK105.out 1; have hfz36_2 := blk_frozen BK105.out 2; have hfz36_3 := blk_frozen BK105.out 3; have hfz36_4 := blk_frozen BK105.out 4; have hfz36_5 := blk_frozen BK105.out 5; obtain ⟨Ao37, co37, eo37⟩ := Kd.R_slice HO_113004.out; subst eo37))
              refine bodyPost_ret (results_cell_row rfl _ _ gb105 53 #[.int .i64 t106, .bool ((rd_T50 y125 t128).f0), .int .i64 ((rd_T50 y125 t128).f1), .int .u64 ((rd_T50 y125 t128).f2), .slice Ao37 x113004_1.length co37, .int .i64 t109] (0, 0) _ rfl (by (with_reducible repeat (first | refine blk_drewN ?_ _ | refine blk_drew ?_ | refine blk_alloc ?_ _)); refine blk_put (cs := #[.int .i64 t106, .bool ((rd_T50 y125 t128).f0), .int .i64 ((rd_T50 y125 t128).f1), .int .u64 ((rd_T50 y125 t128).f2), .slice Ao37 x113004_1.length co37, .int .i64 0]) ?_ 5 _ rfl; (with_reducible repeat (first | refine blk_drewN ?_ _ | refine blk_drew ?_ | refine blk_alloc ?_ _)); refine blk_put (cs := #[.int .i64 t106, .bool ((rd_T50 y125 t128).f0), .int .i64 ((rd_T50 y125 t128).f1), .int .u64 ((rd_T50 y125 t128).f2), .slice none 0 0, .int .i64 0]) ?_ 4 _ rfl; (with_reducible repeat (first | refine blk_drewN ?_ _ | refine blk_drew ?_ | refine blk_alloc ?_ _)); refine blk_put (cs := #[.int .i64 t106, .bool ((rd_T50 y125 t128).f0), .int .i64 ((rd_T50 y125 t128).f1), .int .u64 0, .slice none 0 0, .int .i64 0]) ?_ 3 _ rfl; (with_reducible repeat (first | refine blk_drewN ?_ _ | refine blk_drew ?_ | refine blk_alloc ?_ _)); refine blk_put (cs := #[.int .i64 t106, .bool ((rd_T50 y125 t128).f0), .int .i64 0, .int .u64 0, .slice none 0 0, .int .i64 0]) ?_ 2 _ rfl; (with_reducible repeat (first | refine blk_drewN ?_ _ | refine blk_drew ?_ | refine blk_alloc ?_ _)); refine blk_put (cs := #[.int .i64 t106, .bool false, .int .i64 0, .int .u64 0, .slice none 0 0, .int .i64 0]) ?_ 1 _ rfl; (with_reducible repeat (first | refine blk_drewN ?_ _ | refine blk_drew ?_ | refine blk_alloc ?_ _)); refine blk_put (cs := #[.int .i64 0, .bool false, .int .i64 0, .int .u64 0, .slice none 0 0, .int .i64 0]) ?_ 0 _ rfl; (with_reducible repeat (first | refine blk_drewN ?_ _ | refine blk_drew ?_ | refine blk_alloc ?_ _)); refine blk_far ?_ NB105_112.out _; (with_reducible repeat (first | refine blk_drewN ?_ _ | refine blk_drew ?_ | refine blk_alloc ?_ _)); refine blk_far ?_ NB105_112.out _; (with_reducible repeat (first | refine blk_drewN ?_ _ | refine blk_drew ?_ | refine blk_alloc ?_ _)); refine blk_far ?_ NB105_112.out _; (with_reducible repeat (first | refine blk_drewN ?_ _ | refine blk_drew ?_ | refine blk_alloc ?_ _)); exact BK105.out) Try.underlying53 rfl (by kernel_rfl)) rfl ?_
              exact ⟨_, by first | rfl | (simp [errW_none, errW_some] <;> rfl) | (simp [*, errW_none, errW_some] <;> rfl), by (with_reducible repeat (first | apply Kd.R_alloc | apply Kd.R_drewN | apply Kd.R_drew)); exact Kd.R_mono (Kd.R_far (p := ⟨gb105, 5, none⟩) (Kd.R_far (p := ⟨gb105, 4, none⟩) (Kd.R_far (p := ⟨gb105, 3, none⟩) (Kd.R_far (p := ⟨gb105, 2, none⟩) (Kd.R_far (p := ⟨gb105, 1, none⟩) (Kd.R_far (p := ⟨gb105, 0, none⟩) (Kd.R_far (p := ⟨gb112, 3, none⟩) (Kd.R_far (p := ⟨gb112, 2, none⟩) (Kd.R_far (p := ⟨gb112, 1, none⟩) (Kd.R_types (Kd.R_types HO_113004.out BK112.out (by decide)) BK105.out (by decide)) (fun _ hk => hk.1.2) (.bool ((rd_T50 y125 t128).f0))) (fun _ hk => hk.1.2) (.int .i64 ((rd_T50 y125 t128).f1))) (fun _ hk => hk.1.2) (.int .u64 ((rd_T50 y125 t128).f2))) (fun _ hk => hk.2) (.int .i64 t106)) (fun _ hk => hk.2) (.bool ((rd_T50 y125 t128).f0))) (fun _ hk => hk.2) (.int .i64 ((rd_T50 y125 t128).f1))) (fun _ hk => hk.2) (.int .u64 ((rd_T50 y125 t128).f2))) (fun _ hk => hk.2) (.slice Ao37 x113004_1.length co37)) (fun _ hk => hk.2) (.int .i64 t109)) (fun _ hk => trivial), by repeat (first | (with_reducible first | exact HI0.out | apply IsS138.alloc | apply IsS138.drewN | apply IsS138.drew | apply IsS138.set_1 | apply IsS138.set_2 | refine IsS138.far ?_ NB0_105.out _ | refine IsS138.far ?_ NB0_112.out _) | exact HI0.out), by repeat (first | (with_reducible first | exact HB.out | apply below_alloc | apply pw_below_drewN | apply below_drew1 | refine below_set ?_ (IsS138.ge HI0.out) | refine below_set ?_ GE105.out | refine below_set ?_ GE112.out) | exact HB.out), by repeat (first | (with_reducible first | exact HK.out | apply KeepBut.set_ | apply keep_drewN | apply keep_drew | apply keep_alloc | refine keep_far ?_ GW105.out _ | refine keep_far ?_ GW112.out _) | exact HK.out)⟩
            · rw [if_neg c25] at H
              exact absurd H (by simp)
          · rw [if_neg c24] at H
            exact absurd H (by simp)
        · rw [if_neg c21] at H
          have c21b0 : (t106 == 0) = false := beq_eq_false_iff_ne.mpr c21
          have c21b1 : (t106 != 0) = true := bne_iff_ne.mpr c21
          simp only [Option.some.injEq, Prod.mk.injEq] at H
          obtain ⟨rfl, rfl, rfl, rfl, rfl, rfl, rfl, rfl⟩ := H
          have hnb38 := NB112_105.out
          have hnc38 := NB105_112.out
          have hnb39 := NB112_0.out
          have hnc39 := NB0_112.out
          have hcz40_0 : wr.cell? ⟨gb112, 0, none⟩ = some (.int .i64 t106) := (blk_cell BK112.out 0).trans rfl
          have hcz40_1 : wr.cell? ⟨gb112, 1, none⟩ = some (.bool false) := (blk_cell BK112.out 1).trans rfl
          have hcz40_2 : wr.cell? ⟨gb112, 2, none⟩ = some (.int .i64 0) := (blk_cell BK112.out 2).trans rfl
          have hcz40_3 : wr.cell? ⟨gb112, 3, none⟩ = some (.int .u64 0) := (blk_cell BK112.out 3).trans rfl
          have hcz40_4 : wr.cell? ⟨gb112, 4, none⟩ = some (u113004) := (blk_cell BK112.out 4).trans rfl
          have hcz40_5 : wr.cell? ⟨gb112, 5, none⟩ = some (.int .i64 t109) := (blk_cell BK112.out 5).trans rfl
          have hfz40_0 := blk_frozen BK112.out 0
          have hfz40_1 := blk_frozen BK112.out 1
          have hfz40_2 := blk_frozen BK112.out 2
          have hfz40_3 := blk_frozen BK112.out 3
          have hfz40_4 := blk_frozen BK112.out 4
          have hfz40_5 := blk_frozen BK112.out 5
          have hnb41 := NB105_0.out
          have hnc41 := NB0_105.out
          have hcz42_0 : wr.cell? ⟨gb105, 0, none⟩ = some (.int .i64 0) := (blk_cell BK105.out 0).trans rfl
          have hcz42_1 : wr.cell? ⟨gb105, 1, none⟩ = some (.bool false) := (blk_cell BK105.out 1).trans rfl
          have hcz42_2 : wr.cell? ⟨gb105, 2, none⟩ = some (.int .i64 0) := (blk_cell BK105.out 2).trans rfl
          have hcz42_3 : wr.cell? ⟨gb105, 3, none⟩ = some (.int .u64 0) := (blk_cell BK105.out 3).trans rfl
          have hcz42_4 : wr.cell? ⟨gb105, 4, none⟩ = some (.slice none 0 0) := (blk_cell BK105.out 4).trans rfl
          have hcz42_5 : wr.cell? ⟨gb105, 5, none⟩ = some (.int .i64 0) := (blk_cell BK105.out 5).trans rfl
          have hfz42_0 := blk_frozen BK105.out 0
          have hfz42_1 := blk_frozen BK105.out 1
          have hfz42_2 := blk_frozen BK105.out 2
          have hfz42_3 := blk_frozen BK105.out 3
          have hfz42_4 := blk_frozen BK105.out 4
          have hfz42_5 := blk_frozen BK105.out 5
          obtain ⟨Ao43, co43, eo43⟩ := Kd.R_slice HO_113004.out
          subst eo43
          go_wp2
          refine bodyPost_ret (results_cell_row rfl _ _ gb105 53 #[.int .i64 t106, .bool false, .int .i64 0, .int .u64 0, .slice Ao43 x113004_1.length co43, .int .i64 t109] (0, 0) _ rfl (by (with_reducible repeat (first | refine blk_drewN ?_ _ | refine blk_drew ?_ | refine blk_alloc ?_ _)); refine blk_put (cs := #[.int .i64 t106, .bool false, .int .i64 0, .int .u64 0, .slice Ao43 x113004_1.length co43, .int .i64 0]) ?_ 5 _ rfl; (with_reducible repeat (first | refine blk_drewN ?_ _ | refine blk_drew ?_ | refine blk_alloc ?_ _)); refine blk_put (cs := #[.int .i64 t106, .bool false, .int .i64 0, .int .u64 0, .slice none 0 0, .int .i64 0]) ?_ 4 _ rfl; (with_reducible repeat (first | refine blk_drewN ?_ _ | refine blk_drew ?_ | refine blk_alloc ?_ _)); refine blk_put (cs := #[.int .i64 t106, .bool false, .int .i64 0, .int .u64 0, .slice none 0 0, .int .i64 0]) ?_ 3 _ rfl; (with_reducible repeat (first | refine blk_drewN ?_ _ | refine blk_drew ?_ | refine blk_alloc ?_ _)); refine blk_put (cs := #[.int .i64 t106, .bool false, .int .i64 0, .int .u64 0, .slice none 0 0, .int .i64 0]) ?_ 2 _ rfl; (with_reducible repeat (first | refine blk_drewN ?_ _ | refine blk_drew ?_ | refine blk_alloc ?_ _)); refine blk_put (cs := #[.int .i64 t106, .bool false, .int .i64 0, .int .u64 0, .slice none 0 0, .int .i64 0]) ?_ 1 _ rfl; (with_reducible repeat (first | refine blk_drewN ?_ _ | refine blk_drew ?_ | refine blk_alloc ?_ _)); refine blk_put (cs := #[.int .i64 0, .bool false, .int .i64 0, .int .u64 0, .slice none 0 0, .int .i64 0]) ?_ 0 _ rfl; (with_reducible repeat (first | refine blk_drewN ?_ _ | refine blk_drew ?_ | refine blk_alloc ?_ _)); exact BK105.out) Try.underlying53 rfl (by kernel_rfl)) rfl ?_
          exact ⟨_, by first | rfl | (simp [errW_none, errW_some] <;> rfl) | (simp [*, errW_none, errW_some] <;> rfl), by (with_reducible repeat (first | apply Kd.R_alloc | apply Kd.R_drewN | apply Kd.R_drew)); exact Kd.R_mono (Kd.R_far (p := ⟨gb105, 5, none⟩) (Kd.R_far (p := ⟨gb105, 4, none⟩) (Kd.R_far (p := ⟨gb105, 3, none⟩) (Kd.R_far (p := ⟨gb105, 2, none⟩) (Kd.R_far (p := ⟨gb105, 1, none⟩) (Kd.R_far (p := ⟨gb105, 0, none⟩) (Kd.R_types HO_113004.out BK105.out (by decide)) (fun _ hk => hk.2) (.int .i64 t106)) (fun _ hk => hk.2) (.bool false)) (fun _ hk => hk.2) (.int .i64 0)) (fun _ hk => hk.2) (.int .u64 0)) (fun _ hk => hk.2) (.slice Ao43 x113004_1.length co43)) (fun _ hk => hk.2) (.int .i64 t109)) (fun _ hk => trivial), by repeat (first | (with_reducible first | exact HI0.out | apply IsS138.alloc | apply IsS138.drewN | apply IsS138.drew | apply IsS138.set_1 | apply IsS138.set_2 | refine IsS138.far ?_ NB0_105.out _ | refine IsS138.far ?_ NB0_112.out _) | exact HI0.out), by repeat (first | (with_reducible first | exact HB.out | apply below_alloc | apply pw_below_drewN | apply below_drew1 | refine below_set ?_ (IsS138.ge HI0.out) | refine below_set ?_ GE105.out | refine below_set ?_ GE112.out) | exact HB.out), by repeat (first | (with_reducible first | exact HK.out | apply KeepBut.set_ | apply keep_drewN | apply keep_drew | apply keep_alloc | refine keep_far ?_ GW105.out _ | refine keep_far ?_ GW112.out _) | exact HK.out)⟩

/-! ### spec_l1Chance: function 78 -/
def spec_l1Chance.f (s0_0 : List Int) (s0_1 : Int) (s0_2 : Int) (a1 : Int) : Option (Bool × Int × Int) := (spec_l1Next.f s0_0 s0_1 s0_2 a1).bind fun bt132 => (some ((bt132.1 == 0), bt132.2.1, bt132.2.2))
set_option maxHeartbeats 8000000 in
set_option maxRecDepth 100000 in
theorem spec_l1Chance.calls (g : Nat) (s0_0 : List Int) (s0_1 : Int) (s0_2 : Int) (a1 : Int) (r1 : Bool) (r2 : Int) (r3 : Int) (w0 w : World) (hI : IsS138 w0 w g s0_0 s0_1 s0_2) (hB : Below w0.heap.size w0 w) (h : spec_l1Chance.f s0_0 s0_1 s0_2 a1 = some (r1, r2, r3)) :
    Calls Try.prog 78 #[.pointer (some ⟨g, 0, none⟩), .int .i64 a1] w fun e w' => e = .returned (.bool r1) ∧ IsS138 w0 w' g s0_0 r2 r3 ∧ Below w0.heap.size w0 w' ∧ KeepBut w w' g none := by
  have HI0 := Aside0.mk hI
  have HK := Aside0.mk (KeepBut.refl w g none)
  have HL := Aside0.mk hB.size
  clear hI
  have HW0 := Aside0.mk hB.size
  have HB := Aside0.mk hB
  clear hB
  have H : ((spec_l1Next.f s0_0 s0_1 s0_2 a1).bind fun bt132 => (some ((bt132.1 == 0), bt132.2.1, bt132.2.2))) = some (r1, r2, r3) := h
  clear h
  replace H := Option.bind_eq_some_iff.mp H
  obtain ⟨⟨t132, t133, t134⟩, A30, H⟩ := H
  replace H : (some ((t132 == 0), t133, t134)) = some (r1, r2, r3) := H
  have A3 := Aside0.mk A30
  clear A30
  simp only [Option.some.injEq, Prod.mk.injEq] at H
  obtain ⟨rfl, rfl, rfl⟩ := H
  go_enter Try.func78, Try.ntmps78
  go_wp2_with (first | ((with_reducible refine gate_callee (f := 79) rfl ?_); refine goesL_ (some 7) rfl rfl Try.func79 (by kernel_rfl) rfl #[.pointer (some ⟨g, 0, none⟩), .int .i64 a1] rfl (by (try simp only [List.map_toArray, List.map_cons, List.map_nil]); first | done | rfl | (simp only [List.length_drop, List.length_take]; rfl)) ?_; (with_reducible refine (spec_l1Next.calls g s0_0 s0_1 s0_2 a1 t132 t133 t134 w0 _ ?side1 ?side2 A3.out).mono ?_); (case side1 => repeat (first | (with_reducible first | exact HI0.out | apply IsS138.alloc | apply IsS138.drewN | apply IsS138.drew | apply IsS138.set_1 | apply IsS138.set_2) | exact HI0.out)); (case side2 => repeat (first | (with_reducible first | exact HB.out | apply below_alloc | apply pw_below_drewN | apply below_drew1 | refine below_set ?_ (IsS138.ge HI0.out)) | exact HB.out)); rintro e w4 ⟨rfl, hi, hb, hk⟩; refine ⟨_, rfl, ?_⟩; have n0_ := Aside0.mk (KeepBut.trans (by repeat (first | (with_reducible first | exact HK.out | apply KeepBut.set_ | apply keep_drewN | apply keep_drew | apply keep_alloc) | exact HK.out)) hk (.inl rfl)); have n1_ := Aside0.mk (hb); have n2_ := Aside0.mk (hi); clear HK; clear HB; clear HI0; have HK := n0_; have HB := n1_; have HI0 := n2_; clear n0_ n1_ n2_; (try clear hb); (try clear hb2); (try clear hk); (try clear hi)))
  go_ret
  exact ⟨by first | rfl | (simp [errW_none, errW_some] <;> rfl) | (simp [*, errW_none, errW_some] <;> rfl), by repeat (first | (with_reducible first | exact HI0.out | apply IsS138.alloc | apply IsS138.drewN | apply IsS138.drew | apply IsS138.set_1 | apply IsS138.set_2) | exact HI0.out), by repeat (first | (with_reducible first | exact HB.out | apply below_alloc | apply pw_below_drewN | apply below_drew1 | refine below_set ?_ (IsS138.ge HI0.out)) | exact HB.out), by repeat (first | (with_reducible first | exact HK.out | apply KeepBut.set_ | apply keep_drewN | apply keep_drew | apply keep_alloc) | exact HK.out)⟩

end Go.Proofs.Ythfhenhlfedfmaa.QFnRefines
