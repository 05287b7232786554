-- written by mp.py, a program of this session, over the translation; Lean checks it
import Derived.Test.YtcjdgimiobhhnaaQFnExactPutBitsx0
namespace Go.Proofs.Ytcjdgimiobhhnaa.QFnExactPutBits
open Go.RowKit Go.Proofs.YtcjdgimiobhhnaaW.PrintWords Go.Proofs.YtcjdgimiobhhnaaW.PrintLast Go.Proofs.YtcjdgimiobhhnaaW.PrintMore
attribute [local go_sem] max2_int min2_int max_two min_two max_three min_three max_four min_four   -- for this text's walks alone
set_option linter.unusedVariables false
set_option linter.unusedSimpArgs false

/-! ### laws_toByteS: function 29 -/
def laws_toByteS.l0 : Nat → List Int → List Int → Int → Option (List Int)
  | 0, _, _, _ => none
  | k + 1, x0, x3, x4 => if x4 < (x0.length : Int) then (if 0 ≤ x4 then (if x4 < (x3.length : Int) then (laws_toByteS.l0 k x0 (x3.set (x4 : Int).toNat (rd x0 x4)) (wrap64 (x4 + 1))) else (none)) else (none)) else (some x3)
def laws_toByteS.f (k : Nat) (l0 : List Int) : Option (List Int) := if 0 ≤ (l0.length : Int) then (if ((l0.length : Int) : Int).toNat ≤ 281474976710656 then (laws_toByteS.l0 k l0 (List.replicate ((l0.length : Int) : Int).toNat 0) 0) else (none)) else (none)
theorem laws_toByteS.mono_l : ∀ k, (∀ y0 y1 y2, LeO (laws_toByteS.l0 k y0 y1 y2) (laws_toByteS.l0 (k + 1) y0 y1 y2))
  | 0 => fun _ _ _ r h => by simp [laws_toByteS.l0] at h
  | k + 1 => by
    have ih0 := laws_toByteS.mono_l k
    · intro y0 y1 y2
      unfold laws_toByteS.l0
      repeat' first
      | (with_reducible exact ih0 _ _ _)
      | (with_reducible exact LeO.refl _)
      | (with_reducible exact LeO.none _)
      | (with_reducible refine LeO.ite ?_ ?_)
      | (with_reducible refine LeO.bind ?_ (fun _ => ?_))
      | exact ih0 _ _ _
      | exact LeO.none _
      | refine LeO.ite ?_ ?_
      | refine LeO.bind ?_ (fun _ => ?_)
theorem laws_toByteS.mono : ∀ a0 k, LeO (laws_toByteS.f k a0) (laws_toByteS.f (k + 1) a0) := by
  intro a0 k
  have ih0 := laws_toByteS.mono_l k
  unfold laws_toByteS.f
  repeat' first
      | (with_reducible exact ih0 _ _ _)
      | (with_reducible exact LeO.refl _)
      | (with_reducible exact LeO.none _)
      | (with_reducible refine LeO.ite ?_ ?_)
      | (with_reducible refine LeO.bind ?_ (fun _ => ?_))
      | exact ih0 _ _ _
      | exact LeO.none _
      | refine LeO.ite ?_ ?_
      | refine LeO.bind ?_ (fun _ => ?_)
set_option maxHeartbeats 8000000 in
set_option maxRecDepth 100000 in
theorem laws_toByteS.calls (k : Nat) (A0 : Option Addr) (c0 : Nat) (l0 : List Int) (r : List Int) (w : World) (hr0 : Kd.C (Kd.int .u8) w A0 l0.length l0) (hc0 : l0.length ≤ c0) (h : laws_toByteS.f k l0 = some r) :
    Calls Try.prog 29 #[.slice A0 l0.length c0] w fun e w' => ∃ v0_ : Value, e = .returned (v0_) ∧ Kd.R (Kd.int .u8) 5 w' w.heap.size (fun _ => True) v0_ r ∧ Below w.heap.size w w' := by
  have HR0 := Aside0.mk hr0
  have HC0 := Aside0.mk hc0
  clear hr0 hc0
  have HB := Aside0.mk (Below.refl w.heap.size w)
  have H : (if 0 ≤ (l0.length : Int) then (if ((l0.length : Int) : Int).toNat ≤ 281474976710656 then (laws_toByteS.l0 k l0 (List.replicate ((l0.length : Int) : Int).toNat 0) 0) else (none)) else (none)) = some r := h
  clear h
  by_cases c2 : 0 ≤ (l0.length : Int)
  · rw [if_pos c2] at H
    have c2b0 := eq_true c2
    have c2b1 : decide (0 ≤ (l0.length : Int)) = true := decide_eq_true c2
    clear c2
    by_cases c3 : ((l0.length : Int) : Int).toNat ≤ 281474976710656
    · rw [if_pos c3] at H
      have c3b0 := eq_true c3
      have c3b1 : decide (((l0.length : Int) : Int).toNat ≤ 281474976710656) = true := decide_eq_true c3
      clear c3
      obtain ⟨y144, hy144⟩ : ∃ y_ : List Int, y_ = (List.replicate ((l0.length : Int) : Int).toNat 0) := ⟨_, rfl⟩
      replace H : (laws_toByteS.l0 k l0 y144 0) = some r := by first | (rw [hy144]; with_reducible exact H) | (have H2_ := (Option.bind_some _ _).symm.trans H; rw [hy144]; with_reducible exact H2_) | (have H2_ := (Option.bind_some _ _).symm.trans H; with_reducible exact H2_) | with_reducible exact H | (rw [hy144]; exact H) | exact H
      have Ny144 := Aside0.mk hy144
      clear hy144
      have H' := Aside0.mk H
      clear H
      go_enter Try.func29, Try.ntmps29
      go_wp2_with (first | ((with_reducible refine gate_dst (N := 7) rfl ?_); refine Kd.R_make (Kd.int .u8) _ 5 rfl (N := 7) rfl 22 _ _ rfl (l0.length : Int) rfl rfl Try.underlying22 (.int .u8 0) 1 info5 rfl (by decide) (by omega) 0 (ok := fun _ => True) (okp := fun _ => True) rfl (fun _ hk => hk) trivial (of_decide_eq_true (by first | (with_reducible assumption) | assumption)) (Nat.le_trans (Nat.mul_le_mul_right _ (of_decide_eq_true (by first | (with_reducible assumption) | assumption) : (l0.length : Int).toNat ≤ 281474976710656)) (by omega)) (Below.refl _ _) (Nat.le_refl _) ?_; intro v145 w4 ho5 hb hg_ hnew_; clear hg_ hnew_; (first | rw [← Ny144.out] at ho5 | (simp only [Int.reduceToNat] at ho5; rw [← Ny144.out] at ho5)); have n0_ := Aside0.mk (Kd.R_lower ho5 (below_size (by repeat (first | (with_reducible first | exact HB.out | apply below_alloc | apply pw_below_drewN | apply below_drew1) | exact HB.out)))); have n1_ := Aside0.mk (below_step (by repeat (first | (with_reducible first | exact HB.out | apply below_alloc | apply pw_below_drewN | apply below_drew1) | exact HB.out)) hb); clear HB; have HO146 := n0_; have HB := n1_; clear n0_ n1_; clear hb ho5))
      go_loopg [4] k (fun kq v4 w' => ∃ (x3_1 : List Int) (x4_1 : Int), v4 = .int .i64 x4_1 ∧ Aside0 (laws_toByteS.l0 kq l0 x3_1 x4_1 = some r) ∧ Aside0 (kq ≤ k) ∧ Aside0 (Kd.R (Kd.int .u8) 5 w' w.heap.size (fun _ => True) v145 x3_1) ∧ Aside0 (Below w.heap.size w w'))
      case atStart => exact ⟨(y144), (0), (by first | rfl | (simp; done) | (simp [*]; done)), H', ⟨Nat.le_refl _⟩, ⟨by (with_reducible repeat (first | apply Kd.R_alloc | apply Kd.R_drewN | apply Kd.R_drew)); exact HO146.out⟩, ⟨by repeat (first | (with_reducible first | exact HB.out | apply below_alloc | apply pw_below_drewN | apply below_drew1) | exact HB.out)⟩⟩
      case round =>
        clear H'
        try clear c2
        try clear c2b0
        try clear c2b1
        try clear p2
        try clear c3
        try clear c3b0
        try clear c3b1
        obtain ⟨x3_1, x4_1, rfl, HA, HK1, HO_3, HB⟩ := hrel
        cases gk with
        | zero => exact absurd HA.out (by simp [laws_toByteS.l0])
        | succ k1 =>
          have H := HA.out
          clear HA
          simp only [laws_toByteS.l0] at H
          by_cases c6 : x4_1 < (l0.length : Int)
          · rw [if_pos c6] at H
            have c6b0 : decide (x4_1 < (l0.length : Int)) = true := decide_eq_true c6
            clear c6
            by_cases c7 : 0 ≤ x4_1
            · rw [if_pos c7] at H
              have c7b0 : decide (0 ≤ x4_1) = true := decide_eq_true c7
              clear c7
              by_cases c8 : x4_1 < (x3_1.length : Int)
              · rw [if_pos c8] at H
                have c8b0 : decide (x4_1 < (x3_1.length : Int)) = true := decide_eq_true c8
                clear c8
                obtain ⟨y148, hy148⟩ : ∃ y_ : List Int, y_ = (x3_1.set (x4_1 : Int).toNat (rd l0 x4_1)) := ⟨_, rfl⟩
                replace H : (laws_toByteS.l0 k1 l0 y148 (wrap64 (x4_1 + 1))) = some r := by first | (rw [hy148]; with_reducible exact H) | (have H2_ := (Option.bind_some _ _).symm.trans H; rw [hy148]; with_reducible exact H2_) | (have H2_ := (Option.bind_some _ _).symm.trans H; with_reducible exact H2_) | with_reducible exact H | (rw [hy148]; exact H) | exact H
                have Ny148 := Aside0.mk hy148
                clear hy148
                have H' := Aside0.mk H
                clear H
                have p147 : 0 ≤ (x4_1 : Int) := of_decide_eq_true (by first | (with_reducible assumption) | assumption)
                have q147 : x4_1 < (l0.length : Int) := of_decide_eq_true (by first | (with_reducible assumption) | assumption)
                obtain ⟨ad147, e147, hx147_0⟩ := Kd.at_int HR0.out x4_1 p147 q147
                cases e147
                replace hx147_0 := (HB.out.cell (World.block_lt_of_cell? w _ hx147_0)).trans hx147_0
                replace p147 := eq_true p147
                replace q147 := eq_true q147
                have p9 : 0 ≤ (x4_1 : Int) := of_decide_eq_true (by first | (with_reducible assumption) | assumption)
                have q9 : (x4_1 : Int) < ((x3_1.length : Int) : Int) := of_decide_eq_true (by first | (with_reducible assumption) | assumption)
                obtain ⟨go9, co9, eo9, gb9, gl9, cl9, HG9⟩ := Kd.R_form HO_3.out (by omega)
                (first | cases eo9 | (injection eo9 with ea_ en_ ec_; (first | subst ea_ | (injection ea_ with ea_; subst ea_)); subst ec_; clear en_))
                have GB9 := Aside0.mk gb9
                have GG9 := Aside0.mk HG9
                clear gb9 gl9 HG9
                obtain ⟨hx9_0, hf9_0⟩ := Kd.R_celln 0 HO_3.out (x4_1 : Int) p9 q9
                replace p9 := eq_true p9
                replace q9 := eq_true q9
                have HP10 := Kd.R_putg HO_3.out (x4_1 : Int) (rd l0 x4_1)
                go_wp2_with (first | ((with_reducible refine gate_store (t := 5) (p := 20) rfl ?_); refine store_event (t := 5) (p := 20) (v := ?vo_w11) (w1 := (wr.setCell ⟨go9, (x4_1 : Int).toNat, none⟩ (.int .u8 (rd l0 x4_1)))) ?hg ?ho ?hn ?hr ?_; (case ho => rfl); (case hg => rfl); (case hn => rfl); (case hr => first | (go_simp; done) | (go_simp; rfl)); intro w11 hw; have hg : wr.grownBy w11 (some go9) := (by rw [hw]; exact HP10.2); have hp_ : Kd.R (Kd.int .u8) 5 w11 w.heap.size (fun _ => True) (.slice (some ⟨go9, 0, none⟩) x3_1.length co9) y148 := (by rw [hw, Ny148.out]; exact HP10.1); clear HP10; have n0_ := Aside0.mk (hp_); have n1_ := Aside0.mk ((by rw [hw]; exact below_set (HB.out) GB9.out : Below w.heap.size w w11)); clear HO_3; clear HB; have HO_3 := n0_; have HB := n1_; clear n0_ n1_; clear hg hw hp_))
                go_roundg k1
                case measure => have := HK1.out; omega
                case rel => exact ⟨(y148), (wrap64 (x4_1 + 1)), (by first | rfl | (simp; done) | (simp [*]; done)), H', ⟨by have := HK1.out; omega⟩, ⟨by (with_reducible repeat (first | apply Kd.R_alloc | apply Kd.R_drewN | apply Kd.R_drew)); exact HO_3.out⟩, ⟨by repeat (first | (with_reducible first | exact HB.out | apply below_alloc | apply pw_below_drewN | apply below_drew1) | exact HB.out)⟩⟩
              · rw [if_neg c8] at H
                exact absurd H (by simp)
            · rw [if_neg c7] at H
              exact absurd H (by simp)
          · rw [if_neg c6] at H
            have c6b0 : decide (x4_1 < (l0.length : Int)) = false := decide_eq_false c6
            clear c6
            obtain rfl := Option.some.inj H
            go_wp2
            go_ret
            exact ⟨_, by first | rfl | (simp [errW_none, errW_some] <;> rfl) | (simp [*, errW_none, errW_some] <;> rfl), by (with_reducible repeat (first | apply Kd.R_alloc | apply Kd.R_drewN | apply Kd.R_drew)); exact HO_3.out, by repeat (first | (with_reducible first | exact HB.out | apply below_alloc | apply pw_below_drewN | apply below_drew1) | exact HB.out)⟩
    · rw [if_neg c3] at H
      exact absurd H (by simp)
  · rw [if_neg c2] at H
    exact absurd H (by simp)

/-! ### laws_toBits: function 12 -/
def laws_toBits.f (k : Nat) (l0_0 : List Int) (a0_1 : Int) : Option (List Int × Int) := (laws_toByteS.f k l0_0).bind fun t152 => (some (t152, a0_1))
theorem laws_toBits.mono : ∀ a0 a1 k, LeO (laws_toBits.f k a0 a1) (laws_toBits.f (k + 1) a0 a1) := by
  intro a0 a1 k
  unfold laws_toBits.f
  repeat' first
      | (with_reducible exact laws_toByteS.mono _ _)
      | (with_reducible exact LeO.refl _)
      | (with_reducible exact LeO.none _)
      | (with_reducible refine LeO.ite ?_ ?_)
      | (with_reducible refine LeO.bind ?_ (fun _ => ?_))
      | exact laws_toByteS.mono _ _
      | exact LeO.none _
      | refine LeO.ite ?_ ?_
      | refine LeO.bind ?_ (fun _ => ?_)
set_option maxHeartbeats 8000000 in
set_option maxRecDepth 100000 in
theorem laws_toBits.calls (k : Nat) (A0_0 : Option Addr) (c0_0 : Nat) (l0_0 : List Int) (a0_1 : Int) (r1 : List Int) (r2 : Int) (w : World) (hr0_0 : Kd.C (Kd.int .u8) w A0_0 l0_0.length l0_0) (hc0_0 : l0_0.length ≤ c0_0) (h : laws_toBits.f k l0_0 a0_1 = some (r1, r2)) :
    Calls Try.prog 12 #[.agg #[.slice A0_0 l0_0.length c0_0, .int .i64 a0_1]] w fun e w' => ∃ v0_ : Value, e = .returned (.agg #[v0_, .int .i64 r2]) ∧ Kd.R (Kd.int .u8) 5 w' w.heap.size (fun _ => True) v0_ r1 ∧ Below w.heap.size w w' := by
  have hu24 := Try.underlying24
  have hu27 := Try.underlying27
  have HR0_0 := Aside0.mk hr0_0
  have HC0_0 := Aside0.mk hc0_0
  clear hr0_0 hc0_0
  have HB := Aside0.mk (Below.refl w.heap.size w)
  have H : ((laws_toByteS.f k l0_0).bind fun t152 => (some (t152, a0_1))) = some (r1, r2) := h
  clear h
  replace H := Option.bind_eq_some_iff.mp H
  obtain ⟨t152, A20, H⟩ := H
  replace H : (some (t152, a0_1)) = some (r1, r2) := H
  have A2 := Aside0.mk A20
  clear A20
  simp only [Option.some.injEq, Prod.mk.injEq] at H
  obtain ⟨rfl, rfl⟩ := H
  go_enter Try.func12, Try.ntmps12
  go_wp2_with (first | ((with_reducible refine gate_dst (N := 1) rfl ?_); refine box_event ?hg (N := 1) ?hd (cs := #[.slice A0_0 l0_0.length c0_0, .int .i64 a0_1]) (t := 24) ?hr ?_; (case hd => rfl); (case hg => rfl); (case hr => first | (go_simp; done) | (go_simp; rfl)); intro gb149 hg w3 hbox hb; have n0_ := Aside0.mk (below_step (by repeat (first | (with_reducible first | exact HB.out | apply below_alloc | apply pw_below_drewN | apply below_drew1) | exact HB.out)) hb); have n1_ := Aside0.mk (hbox); have n2_ := Aside0.mk ((by rw [hg]; exact (below_size (by repeat (first | (with_reducible first | exact HB.out | apply below_alloc | apply pw_below_drewN | apply below_drew1) | exact HB.out))) : w.heap.size ≤ gb149)); have n3_ := Aside0.mk ((by rw [hg]; exact (below_size (by repeat (first | (with_reducible first | exact HB.out | apply below_alloc | apply pw_below_drewN | apply below_drew1) | exact HB.out))) : w.heap.size ≤ gb149)); clear HB; have HB := n0_; have BK149 := n1_; have GW149 := n2_; have GE149 := n3_; clear n0_ n1_ n2_ n3_; clear hb hbox hg) | ((with_reducible refine gate_dst (N := 2) rfl ?_); refine box_event ?hg (N := 2) ?hd (cs := #[.slice none 0 0, .int .i64 0]) (t := 27) ?hr ?_; (case hd => rfl); (case hg => rfl); (case hr => first | (go_simp; done) | (go_simp; rfl)); intro gb150 hg w4 hbox hb; have n0_ := Aside0.mk (blk_below (g := gb149) (o := .cells #[.slice A0_0 l0_0.length c0_0, .int .i64 a0_1] 24 (0, 0)) (by (with_reducible repeat (first | refine blk_drewN ?_ _ | refine blk_drew ?_ | refine blk_alloc ?_ _)); exact BK149.out) hb); have n1_ := Aside0.mk (below_step (by repeat (first | (with_reducible first | exact HB.out | apply below_alloc | apply pw_below_drewN | apply below_drew1 | refine below_set ?_ GE149.out) | exact HB.out)) hb); have n2_ := Aside0.mk (hbox); have n3_ := Aside0.mk ((by rw [hg]; exact (below_size (by repeat (first | (with_reducible first | exact HB.out | apply below_alloc | apply pw_below_drewN | apply below_drew1 | refine below_set ?_ GE149.out) | exact HB.out))) : w.heap.size ≤ gb150)); have n4_ := Aside0.mk ((by rw [hg]; exact (below_size (by repeat (first | (with_reducible first | exact HB.out | apply below_alloc | apply pw_below_drewN | apply below_drew1 | refine below_set ?_ GE149.out) | exact HB.out))) : w.heap.size ≤ gb150)); have n5_ := Aside0.mk ((by rw [hg]; exact Nat.ne_of_lt (blk_lt (g := gb149) (o := .cells #[.slice A0_0 l0_0.length c0_0, .int .i64 a0_1] 24 (0, 0)) (by (with_reducible repeat (first | refine blk_drewN ?_ _ | refine blk_drew ?_ | refine blk_alloc ?_ _)); exact BK149.out)) : gb149 ≠ gb150)); have n6_ := Aside0.mk ((by rw [hg]; exact Nat.ne_of_gt (blk_lt (g := gb149) (o := .cells #[.slice A0_0 l0_0.length c0_0, .int .i64 a0_1] 24 (0, 0)) (by (with_reducible repeat (first | refine blk_drewN ?_ _ | refine blk_drew ?_ | refine blk_alloc ?_ _)); exact BK149.out)) : gb150 ≠ gb149)); clear BK149; clear HB; have BK149 := n0_; have HB := n1_; have BK150 := n2_; have GW150 := n3_; have GE150 := n4_; have NB149_150 := n5_; have NB150_149 := n6_; clear n0_ n1_ n2_ n3_ n4_ n5_ n6_; clear hb hbox hg) | ((with_reducible refine gate_dst (N := 3) rfl ?_); refine box_event ?hg (N := 3) ?hd (cs := #[.slice none 0 0, .int .i64 0]) (t := 27) ?hr ?_; (case hd => rfl); (case hg => rfl); (case hr => first | (go_simp; done) | (go_simp; rfl)); intro gb151 hg w5 hbox hb; have n0_ := Aside0.mk (blk_below (g := gb149) (o := .cells #[.slice A0_0 l0_0.length c0_0, .int .i64 a0_1] 24 (0, 0)) (by (with_reducible repeat (first | refine blk_drewN ?_ _ | refine blk_drew ?_ | refine blk_alloc ?_ _)); exact BK149.out) hb); have n1_ := Aside0.mk (blk_below (g := gb150) (o := .cells #[.slice none 0 0, .int .i64 0] 27 (0, 0)) (by (with_reducible repeat (first | refine blk_drewN ?_ _ | refine blk_drew ?_ | refine blk_alloc ?_ _)); exact BK150.out) hb); have n2_ := Aside0.mk (below_step (by repeat (first | (with_reducible first | exact HB.out | apply below_alloc | apply pw_below_drewN | apply below_drew1 | refine below_set ?_ GE149.out | refine below_set ?_ GE150.out) | exact HB.out)) hb); have n3_ := Aside0.mk (hbox); have n4_ := Aside0.mk ((by rw [hg]; exact (below_size (by repeat (first | (with_reducible first | exact HB.out | apply below_alloc | apply pw_below_drewN | apply below_drew1 | refine below_set ?_ GE149.out | refine below_set ?_ GE150.out) | exact HB.out))) : w.heap.size ≤ gb151)); have n5_ := Aside0.mk ((by rw [hg]; exact (below_size (by repeat (first | (with_reducible first | exact HB.out | apply below_alloc | apply pw_below_drewN | apply below_drew1 | refine below_set ?_ GE149.out | refine below_set ?_ GE150.out) | exact HB.out))) : w.heap.size ≤ gb151)); have n6_ := Aside0.mk ((by rw [hg]; exact Nat.ne_of_lt (blk_lt (g := gb149) (o := .cells #[.slice A0_0 l0_0.length c0_0, .int .i64 a0_1] 24 (0, 0)) (by (with_reducible repeat (first | refine blk_drewN ?_ _ | refine blk_drew ?_ | refine blk_alloc ?_ _)); exact BK149.out)) : gb149 ≠ gb151)); have n7_ := Aside0.mk ((by rw [hg]; exact Nat.ne_of_gt (blk_lt (g := gb149) (o := .cells #[.slice A0_0 l0_0.length c0_0, .int .i64 a0_1] 24 (0, 0)) (by (with_reducible repeat (first | refine blk_drewN ?_ _ | refine blk_drew ?_ | refine blk_alloc ?_ _)); exact BK149.out)) : gb151 ≠ gb149)); have n8_ := Aside0.mk ((by rw [hg]; exact Nat.ne_of_lt (blk_lt (g := gb150) (o := .cells #[.slice none 0 0, .int .i64 0] 27 (0, 0)) (by (with_reducible repeat (first | refine blk_drewN ?_ _ | refine blk_drew ?_ | refine blk_alloc ?_ _)); exact BK150.out)) : gb150 ≠ gb151)); have n9_ := Aside0.mk ((by rw [hg]; exact Nat.ne_of_gt (blk_lt (g := gb150) (o := .cells #[.slice none 0 0, .int .i64 0] 27 (0, 0)) (by (with_reducible repeat (first | refine blk_drewN ?_ _ | refine blk_drew ?_ | refine blk_alloc ?_ _)); exact BK150.out)) : gb151 ≠ gb150)); clear BK149; clear BK150; clear HB; have BK149 := n0_; have BK150 := n1_; have HB := n2_; have BK151 := n3_; have GW151 := n4_; have GE151 := n5_; have NB149_151 := n6_; have NB151_149 := n7_; have NB150_151 := n8_; have NB151_150 := n9_; clear n0_ n1_ n2_ n3_ n4_ n5_ n6_ n7_ n8_ n9_; clear hb hbox hg; have hnb6 := NB149_150.out; have hnc6 := NB150_149.out; have hnb7 := NB149_151.out; have hnc7 := NB151_149.out; have hcz8_0 : w5.cell? ⟨gb149, 0, none⟩ = some (.slice A0_0 l0_0.length c0_0) := (blk_cell BK149.out 0).trans rfl; have hcz8_1 : w5.cell? ⟨gb149, 1, none⟩ = some (.int .i64 a0_1) := (blk_cell BK149.out 1).trans rfl; have hfz8_0 := blk_frozen BK149.out 0; have hfz8_1 := blk_frozen BK149.out 1) | ((with_reducible refine gate_callee (f := 29) rfl ?_); refine goesL_ (some 6) rfl rfl Try.func29 (by kernel_rfl) rfl #[.slice A0_0 l0_0.length c0_0] rfl (by (try simp only [List.map_toArray, List.map_cons, List.map_nil]); first | done | rfl | (simp only [List.length_drop, List.length_take]; rfl)) ?_; (with_reducible refine (laws_toByteS.calls k _ _ l0_0 t152 _ ?side1 ?side2 A2.out).mono ?_); (case side1 => repeat (first | exact (Kd.C_below HR0_0.out HB.out) | (with_reducible refine Kd.C_alloc ?_ _) | (with_reducible refine Kd.C_drewN ?_ _) | (with_reducible refine Kd.C_drew ?_))); (case side2 => exact HC0_0.out); rintro e w9 ⟨v153, rfl, ho0, hb⟩; refine ⟨_, rfl, ?_⟩; have n0_ := Aside0.mk (Kd.R_lower ho0 (below_size (by repeat (first | (with_reducible first | exact HB.out | apply below_alloc | apply pw_below_drewN | apply below_drew1 | refine below_set ?_ GE149.out | refine below_set ?_ GE150.out | refine below_set ?_ GE151.out) | exact HB.out)))); have n1_ := Aside0.mk (blk_below (g := gb149) (o := .cells #[.slice A0_0 l0_0.length c0_0, .int .i64 a0_1] 24 (0, 0)) (by (with_reducible repeat (first | refine blk_drewN ?_ _ | refine blk_drew ?_ | refine blk_alloc ?_ _)); exact BK149.out) hb); have n2_ := Aside0.mk (blk_below (g := gb150) (o := .cells #[.slice none 0 0, .int .i64 0] 27 (0, 0)) (by (with_reducible repeat (first | refine blk_drewN ?_ _ | refine blk_drew ?_ | refine blk_alloc ?_ _)); exact BK150.out) hb); have n3_ := Aside0.mk (blk_below (g := gb151) (o := .cells #[.slice none 0 0, .int .i64 0] 27 (0, 0)) (by (with_reducible repeat (first | refine blk_drewN ?_ _ | refine blk_drew ?_ | refine blk_alloc ?_ _)); exact BK151.out) hb); have n4_ := Aside0.mk (below_step (by repeat (first | (with_reducible first | exact HB.out | apply below_alloc | apply pw_below_drewN | apply below_drew1 | refine below_set ?_ GE149.out | refine below_set ?_ GE150.out | refine below_set ?_ GE151.out) | exact HB.out)) hb); clear BK149; clear BK150; clear BK151; clear HB; have HO154 := n0_; have BK149 := n1_; have BK150 := n2_; have BK151 := n3_; have HB := n4_; clear n0_ n1_ n2_ n3_ n4_; (try clear hb); (try clear hb2); (try clear hk); (try clear hi); (try clear ho0); obtain ⟨Ao10, co10, eo10⟩ := Kd.R_slice HO154.out; subst eo10; have hnb11 := NB151_150.out; have hnc11 := NB150_151.out; have hcz12_0 : w9.cell? ⟨gb151, 0, none⟩ = some (.slice none 0 0) := (blk_cell BK151.out 0).trans rfl; have hcz12_1 : w9.cell? ⟨gb151, 1, none⟩ = some (.int .i64 0) := (blk_cell BK151.out 1).trans rfl; have hfz12_0 := blk_frozen BK151.out 0; have hfz12_1 := blk_frozen BK151.out 1; have hcz13_0 : w9.cell? ⟨gb149, 0, none⟩ = some (.slice A0_0 l0_0.length c0_0) := (blk_cell BK149.out 0).trans rfl; have hcz13_1 : w9.cell? ⟨gb149, 1, none⟩ = some (.int .i64 a0_1) := (blk_cell BK149.out 1).trans rfl; have hfz13_0 := blk_frozen BK149.out 0; have hfz13_1 := blk_frozen BK149.out 1; have hcz14_0 : w9.cell? ⟨gb150, 0, none⟩ = some (.slice none 0 0) := (blk_cell BK150.out 0).trans rfl; have hcz14_1 : w9.cell? ⟨gb150, 1, none⟩ = some (.int .i64 0) := (blk_cell BK150.out 1).trans rfl; have hfz14_0 := blk_frozen BK150.out 0; have hfz14_1 := blk_frozen BK150.out 1))
  refine bodyPost_ret (results_cell_row rfl _ _ gb150 27 #[.slice Ao10 t152.length co10, .int .i64 a0_1] (0, 0) _ rfl (by (with_reducible repeat (first | refine blk_drewN ?_ _ | refine blk_drew ?_ | refine blk_alloc ?_ _)); refine blk_put (cs := #[.slice Ao10 t152.length co10, .int .i64 0]) ?_ 1 _ rfl; (with_reducible repeat (first | refine blk_drewN ?_ _ | refine blk_drew ?_ | refine blk_alloc ?_ _)); refine blk_put (cs := #[.slice none 0 0, .int .i64 0]) ?_ 0 _ rfl; (with_reducible repeat (first | refine blk_drewN ?_ _ | refine blk_drew ?_ | refine blk_alloc ?_ _)); refine blk_far ?_ NB150_151.out _; (with_reducible repeat (first | refine blk_drewN ?_ _ | refine blk_drew ?_ | refine blk_alloc ?_ _)); refine blk_far ?_ NB150_151.out _; (with_reducible repeat (first | refine blk_drewN ?_ _ | refine blk_drew ?_ | refine blk_alloc ?_ _)); exact BK150.out) Try.underlying27 rfl (by kernel_rfl)) rfl ?_
  exact ⟨_, by first | rfl | (simp [errW_none, errW_some] <;> rfl) | (simp [*, errW_none, errW_some] <;> rfl), by (with_reducible repeat (first | apply Kd.R_alloc | apply Kd.R_drewN | apply Kd.R_drew)); exact Kd.R_mono (Kd.R_far (p := ⟨gb150, 1, none⟩) (Kd.R_far (p := ⟨gb150, 0, none⟩) (Kd.R_far (p := ⟨gb151, 1, none⟩) (Kd.R_far (p := ⟨gb151, 0, none⟩) (Kd.R_types (Kd.R_types HO154.out BK151.out (by decide)) BK150.out (by decide)) (fun _ hk => hk.1.2) (.slice Ao10 t152.length co10)) (fun _ hk => hk.1.2) (.int .i64 a0_1)) (fun _ hk => hk.2) (.slice Ao10 t152.length co10)) (fun _ hk => hk.2) (.int .i64 a0_1)) (fun _ hk => trivial), by repeat (first | (with_reducible first | exact HB.out | apply below_alloc | apply pw_below_drewN | apply below_drew1 | refine below_set ?_ GE149.out | refine below_set ?_ GE150.out | refine below_set ?_ GE151.out) | exact HB.out)⟩

/-! ### impl_bitsOk: function 78 -/
def impl_bitsOk.j0 : Nat → Bool → List Int → Int → Option (Bool)
  | 0, _, _, _ => none
  | k + 1, x21, x156000, x156001 => if x21 = true then (some false) else (if (Int.tmod x156001 8) > 0 then (if 0 ≤ (wrap64 ((x156000.length : Int) - 1)) then (if (wrap64 ((x156000.length : Int) - 1)) < (x156000.length : Int) then (if 0 ≤ (Int.tmod x156001 8) then (if (shr .u8 (rd x156000 (wrap64 ((x156000.length : Int) - 1))) (Int.tmod x156001 8)) = 0 then (some true) else (some false)) else (none)) else (none)) else (none)) else (some true))
def impl_bitsOk.f (k : Nat) (l0_0 : List Int) (a0_1 : Int) : Option (Bool) := if a0_1 < 0 then (impl_bitsOk.j0 k true l0_0 a0_1) else (impl_bitsOk.j0 k ((l0_0.length : Int) != (wrap64 ((wrap64 (Int.tdiv a0_1 8)) + (wrap64 (Int.tdiv (wrap64 ((Int.tmod a0_1 8) + 7)) 8))))) l0_0 a0_1)
theorem impl_bitsOk.mono_l : ∀ k, (∀ y0 y1 y2, LeO (impl_bitsOk.j0 k y0 y1 y2) (impl_bitsOk.j0 (k + 1) y0 y1 y2))
  | 0 => fun _ _ _ r h => by simp [impl_bitsOk.j0] at h
  | k + 1 => by
    have ih0 := impl_bitsOk.mono_l k
    · intro y0 y1 y2
      unfold impl_bitsOk.j0
      repeat' first
      | (with_reducible exact ih0 _ _ _)
      | (with_reducible exact LeO.refl _)
      | (with_reducible exact LeO.none _)
      | (with_reducible refine LeO.ite ?_ ?_)
      | (with_reducible refine LeO.bind ?_ (fun _ => ?_))
      | exact ih0 _ _ _
      | exact LeO.none _
      | refine LeO.ite ?_ ?_
      | refine LeO.bind ?_ (fun _ => ?_)
theorem impl_bitsOk.mono : ∀ a0 a1 k, LeO (impl_bitsOk.f k a0 a1) (impl_bitsOk.f (k + 1) a0 a1) := by
  intro a0 a1 k
  have ih0 := impl_bitsOk.mono_l k
  unfold impl_bitsOk.f
  repeat' first
      | (with_reducible exact ih0 _ _ _)
      | (with_reducible exact LeO.refl _)
      | (with_reducible exact LeO.none _)
      | (with_reducible refine LeO.ite ?_ ?_)
      | (with_reducible refine LeO.bind ?_ (fun _ => ?_))
      | exact ih0 _ _ _
      | exact LeO.none _
      | refine LeO.ite ?_ ?_
      | refine LeO.bind ?_ (fun _ => ?_)
set_option maxHeartbeats 8000000 in
set_option maxRecDepth 100000 in
theorem impl_bitsOk.calls (k : Nat) (A0_0 : Option Addr) (c0_0 : Nat) (l0_0 : List Int) (a0_1 : Int) (r : Bool) (w : World) (hr0_0 : Kd.C (Kd.int .u8) w A0_0 l0_0.length l0_0) (hc0_0 : l0_0.length ≤ c0_0) (h : impl_bitsOk.f k l0_0 a0_1 = some r) :
    Calls Try.prog 78 #[.agg #[.slice A0_0 l0_0.length c0_0, .int .i64 a0_1]] w fun e w' => e = .returned (.bool r) ∧ Below w.heap.size w w' := by
  have hu27 := Try.underlying27
  have HR0_0 := Aside0.mk hr0_0
  have HC0_0 := Aside0.mk hc0_0
  clear hr0_0 hc0_0
  have HB := Aside0.mk (Below.refl w.heap.size w)
  have H : (if a0_1 < 0 then (impl_bitsOk.j0 k true l0_0 a0_1) else (impl_bitsOk.j0 k ((l0_0.length : Int) != (wrap64 ((wrap64 (Int.tdiv a0_1 8)) + (wrap64 (Int.tdiv (wrap64 ((Int.tmod a0_1 8) + 7)) 8))))) l0_0 a0_1)) = some r := h
  clear h
  have HC2 := Aside0.mk H
  clear H
  go_enter Try.func78, Try.ntmps78
  go_upto_region 1 with (first | ((with_reducible refine gate_dst (N := 1) rfl ?_); (try (refine gate_guard (by rfl) ?_; dsimp only)); refine box_event ?hg (N := 1) ?hd (cs := #[.slice A0_0 l0_0.length c0_0, .int .i64 a0_1]) (t := 27) ?hr ?_; (case hd => rfl); (case hg => rfl); (case hr => first | (go_simp; done) | (go_simp; rfl)); intro gb155 hg w3 hbox hb; have n0_ := Aside0.mk (below_step (by repeat (first | (with_reducible first | exact HB.out | apply below_alloc | apply pw_below_drewN | apply below_drew1) | exact HB.out)) hb); have n1_ := Aside0.mk (hbox); have n2_ := Aside0.mk ((by rw [hg]; exact (below_size (by repeat (first | (with_reducible first | exact HB.out | apply below_alloc | apply pw_below_drewN | apply below_drew1) | exact HB.out))) : w.heap.size ≤ gb155)); have n3_ := Aside0.mk ((by rw [hg]; exact (below_size (by repeat (first | (with_reducible first | exact HB.out | apply below_alloc | apply pw_below_drewN | apply below_drew1) | exact HB.out))) : w.heap.size ≤ gb155)); clear HB; have HB := n0_; have BK155 := n1_; have GW155 := n2_; have GE155 := n3_; clear n0_ n1_ n2_ n3_; clear hb hbox hg))
  (try simp only [Act.put, List.setIfInBounds_toArray, List.set_cons_zero, List.set_cons_succ])
  go_cut [21] (fun v21 wc => ∃ (kq : Nat) (x21_1 : Bool), v21 = .bool x21_1 ∧ Aside0 (impl_bitsOk.j0 kq x21_1 l0_0 a0_1 = some r) ∧ Aside0 (kq ≤ k) ∧ Aside0 (wc.heap[gb155]? = some (.cells #[(.slice A0_0 l0_0.length c0_0), .int .i64 a0_1] 27 (0, 0))) ∧ Aside0 (Below w.heap.size w wc))
  case first =>
    have H := HC2.out
    clear HC2
    by_cases c4 : a0_1 < 0
    · rw [if_pos c4] at H
      have c4b0 : decide (a0_1 < 0) = true := decide_eq_true c4
      clear c4
      (first | rw [c4b0] | (simp only [i64_w, i32_w]; rw [c4b0]) | skip)
      have H' := Aside0.mk H
      clear H
      have hcz5_0 : w3.cell? ⟨gb155, 0, none⟩ = some (.slice A0_0 l0_0.length c0_0) := (blk_cell BK155.out 0).trans rfl
      have hcz5_1 : w3.cell? ⟨gb155, 1, none⟩ = some (.int .i64 a0_1) := (blk_cell BK155.out 1).trans rfl
      have hfz5_0 := blk_frozen BK155.out 0
      have hfz5_1 := blk_frozen BK155.out 1
      go_wp2
      go_meet
      case rel => exact ⟨_, (true), (by first | rfl | (simp; done) | (simp [*]; done)), H', ⟨by first | omega | exact Nat.le_refl _⟩, ⟨by (with_reducible repeat (first | refine blk_drewN ?_ _ | refine blk_drew ?_ | refine blk_alloc ?_ _)); exact BK155.out⟩, ⟨by repeat (first | (with_reducible first | exact HB.out | apply below_alloc | apply pw_below_drewN | apply below_drew1 | refine below_set ?_ GE155.out) | exact HB.out)⟩⟩
    · rw [if_neg c4] at H
      have c4b0 : decide (a0_1 < 0) = false := decide_eq_false c4
      clear c4
      (first | rw [c4b0] | (simp only [i64_w, i32_w]; rw [c4b0]) | skip)
      have H' := Aside0.mk H
      clear H
      have hcz6_0 : w3.cell? ⟨gb155, 0, none⟩ = some (.slice A0_0 l0_0.length c0_0) := (blk_cell BK155.out 0).trans rfl
      have hcz6_1 : w3.cell? ⟨gb155, 1, none⟩ = some (.int .i64 a0_1) := (blk_cell BK155.out 1).trans rfl
      have hfz6_0 := blk_frozen BK155.out 0
      have hfz6_1 := blk_frozen BK155.out 1
      go_wp2
      go_meet
      case rel => exact ⟨_, (((l0_0.length : Int) != (wrap64 ((wrap64 (Int.tdiv a0_1 8)) + (wrap64 (Int.tdiv (wrap64 ((Int.tmod a0_1 8) + 7)) 8)))))), (by first | rfl | (simp; done) | (simp [*]; done)), H', ⟨by first | omega | exact Nat.le_refl _⟩, ⟨by (with_reducible repeat (first | refine blk_drewN ?_ _ | refine blk_drew ?_ | refine blk_alloc ?_ _)); exact BK155.out⟩, ⟨by repeat (first | (with_reducible first | exact HB.out | apply below_alloc | apply pw_below_drewN | apply below_drew1 | refine below_set ?_ GE155.out) | exact HB.out)⟩⟩
  case rest =>
    clear HC2
    try clear p2
    try clear c4
    try clear c4b0
    try clear p6
    try clear hcz5_0
    try clear hcz5_1
    try clear hcz6_0
    try clear hcz6_1
    try clear hfz5_0
    try clear hfz5_1
    try clear hfz6_0
    try clear hfz6_1
    obtain ⟨kq, x21_1, rfl, HA, HJ1, BK155, HB⟩ := hcut
    cases kq with
    | zero => exact absurd HA.out (by simp [impl_bitsOk.j0])
    | succ kj1 =>
      have H := HA.out
      clear HA
      simp only [impl_bitsOk.j0] at H
      by_cases c7 : x21_1 = true
      · subst c7
        have H1 : (some false) = some r := by rw [if_pos rfl] at H; exact H
        clear H
        have H := H1
        clear H1
        obtain rfl := Option.some.inj H
        go_wp2
        go_ret
        exact ⟨by first | rfl | (simp [errW_none, errW_some] <;> rfl) | (simp [*, errW_none, errW_some] <;> rfl), by repeat (first | (with_reducible first | exact HB.out | apply below_alloc | apply pw_below_drewN | apply below_drew1 | refine below_set ?_ GE155.out) | exact HB.out)⟩
      · replace c7 := Bool.eq_false_iff.mpr c7
        subst c7
        have H1 : (if (Int.tmod a0_1 8) > 0 then (if 0 ≤ (wrap64 ((l0_0.length : Int) - 1)) then (if (wrap64 ((l0_0.length : Int) - 1)) < (l0_0.length : Int) then (if 0 ≤ (Int.tmod a0_1 8) then (if (shr .u8 (rd l0_0 (wrap64 ((l0_0.length : Int) - 1))) (Int.tmod a0_1 8)) = 0 then (some true) else (some false)) else (none)) else (none)) else (none)) else (some true)) = some r := by rw [if_neg (show ¬ (false = true) by decide)] at H; exact H
        clear H
        have H := H1
        clear H1
        by_cases c8 : (Int.tmod a0_1 8) > 0
        · rw [if_pos c8] at H
          have c8b0 : decide (0 < (Int.tmod a0_1 8)) = true := decide_eq_true c8
          clear c8
          obtain ⟨ji9, hji9⟩ : ∃ j_ : Int, (wrap64 ((l0_0.length : Int) - 1)) = j_ := ⟨_, rfl⟩
          replace H : (if 0 ≤ (ji9) then (if (ji9) < (l0_0.length : Int) then (if 0 ≤ (Int.tmod a0_1 8) then (if (shr .u8 (rd l0_0 (ji9)) (Int.tmod a0_1 8)) = 0 then (some true) else (some false)) else (none)) else (none)) else (none)) = some r := by first | (rw [hji9] at H; exact H) | (simp only [hji9] at H ⊢; exact H)
          have hji9w : (IntKind.i64.wrap ((l0_0.length : Int) - 1)) = ji9 := (i64_w _).trans hji9
          by_cases c10 : 0 ≤ (ji9)
          · rw [if_pos c10] at H
            have c10b0 : decide (0 ≤ (ji9)) = true := decide_eq_true c10
            clear c10
            by_cases c11 : (ji9) < (l0_0.length : Int)
            · rw [if_pos c11] at H
              have c11b0 : decide ((ji9) < (l0_0.length : Int)) = true := decide_eq_true c11
              clear c11
              obtain ⟨ji12, hji12⟩ : ∃ j_ : Int, (Int.tmod a0_1 8) = j_ := ⟨_, rfl⟩
              replace H : (if 0 ≤ (ji12) then (if (shr .u8 (rd l0_0 (ji9)) (ji12)) = 0 then (some true) else (some false)) else (none)) = some r := by first | (rw [hji12] at H; exact H) | (simp only [hji12] at H ⊢; exact H)
              (try rw [hji12] at c8b0)
              by_cases c13 : 0 ≤ (ji12)
              · rw [if_pos c13] at H
                have c13b0 := eq_true c13
                have c13b1 : decide (0 ≤ (ji12)) = true := decide_eq_true c13
                clear c13
                obtain ⟨ji14, hji14⟩ : ∃ j_ : Int, (shr .u8 (rd l0_0 (ji9)) (ji12)) = j_ := ⟨_, rfl⟩
                replace H : (if (ji14) = 0 then (some true) else (some false)) = some r := by first | (rw [hji14] at H; exact H) | (simp only [hji14] at H ⊢; exact H)
                have hji14_ : ((rd l0_0 (ji9)) / 2 ^ min (ji12).toNat 8) = ji14 := hji14
                have hji14z : (ji12) ≤ 8 → ((rd l0_0 (ji9)) / 2 ^ (ji12).toNat) = ji14 := shr_small hji14
                by_cases c15 : (ji14) = 0
                · rw [if_pos c15] at H
                  have c15b0 : ((ji14) == 0) = true := beq_iff_eq.mpr c15
                  have c15b1 : ((ji14) != 0) = false := bne_eq_false_iff_eq.mpr c15
                  clear c15
                  obtain rfl := Option.some.inj H
                  have hcz16_0 : wc.cell? ⟨gb155, 0, none⟩ = some (.slice A0_0 l0_0.length c0_0) := (blk_cell BK155.out 0).trans rfl
                  have hcz16_1 : wc.cell? ⟨gb155, 1, none⟩ = some (.int .i64 a0_1) := (blk_cell BK155.out 1).trans rfl
                  have hfz16_0 := blk_frozen BK155.out 0
                  have hfz16_1 := blk_frozen BK155.out 1
                  have p156 : 0 ≤ ((ji9) : Int) := of_decide_eq_true (by first | (with_reducible assumption) | assumption)
                  have q156 : (ji9) < (l0_0.length : Int) := of_decide_eq_true (by first | (with_reducible assumption) | assumption)
                  obtain ⟨ad156, e156, hx156_0⟩ := Kd.at_int HR0_0.out (ji9) p156 q156
                  cases e156
                  replace hx156_0 := (HB.out.cell (World.block_lt_of_cell? w _ hx156_0)).trans hx156_0
                  replace p156 := eq_true p156
                  replace q156 := eq_true q156
                  go_wp2
                  go_ret
                  exact ⟨by first | rfl | (simp [errW_none, errW_some] <;> rfl) | (simp only [← hji9, ← hji12, ← hji14]; first | rfl | (simp [errW_none, errW_some] <;> rfl)) | (simp [*, errW_none, errW_some] <;> rfl), by repeat (first | (with_reducible first | exact HB.out | apply below_alloc | apply pw_below_drewN | apply below_drew1 | refine below_set ?_ GE155.out) | exact HB.out)⟩
                · rw [if_neg c15] at H
                  have c15b0 : ((ji14) == 0) = false := beq_eq_false_iff_ne.mpr c15
                  have c15b1 : ((ji14) != 0) = true := bne_iff_ne.mpr c15
                  obtain rfl := Option.some.inj H
                  have hcz17_0 : wc.cell? ⟨gb155, 0, none⟩ = some (.slice A0_0 l0_0.length c0_0) := (blk_cell BK155.out 0).trans rfl
                  have hcz17_1 : wc.cell? ⟨gb155, 1, none⟩ = some (.int .i64 a0_1) := (blk_cell BK155.out 1).trans rfl
                  have hfz17_0 := blk_frozen BK155.out 0
                  have hfz17_1 := blk_frozen BK155.out 1
                  have p156 : 0 ≤ ((ji9) : Int) := of_decide_eq_true (by first | (with_reducible assumption) | assumption)
                  have q156 : (ji9) < (l0_0.length : Int) := of_decide_eq_true (by first | (with_reducible assumption) | assumption)
                  obtain ⟨ad156, e156, hx156_0⟩ := Kd.at_int HR0_0.out (ji9) p156 q156
                  cases e156
                  replace hx156_0 := (HB.out.cell (World.block_lt_of_cell? w _ hx156_0)).trans hx156_0
                  replace p156 := eq_true p156
                  replace q156 := eq_true q156
                  go_wp2
                  go_ret
                  exact ⟨by first | rfl | (simp [errW_none, errW_some] <;> rfl) | (simp only [← hji9, ← hji12, ← hji14]; first | rfl | (simp [errW_none, errW_some] <;> rfl)) | (simp [*, errW_none, errW_some] <;> rfl), by repeat (first | (with_reducible first | exact HB.out | apply below_alloc | apply pw_below_drewN | apply below_drew1 | refine below_set ?_ GE155.out) | exact HB.out)⟩
              · rw [if_neg c13] at H
                exact absurd H (by simp)
            · rw [if_neg c11] at H
              exact absurd H (by simp)
          · rw [if_neg c10] at H
            exact absurd H (by simp)
        · rw [if_neg c8] at H
          have c8b0 : decide (0 < (Int.tmod a0_1 8)) = false := decide_eq_false c8
          clear c8
          obtain rfl := Option.some.inj H
          have hcz18_0 : wc.cell? ⟨gb155, 0, none⟩ = some (.slice A0_0 l0_0.length c0_0) := (blk_cell BK155.out 0).trans rfl
          have hcz18_1 : wc.cell? ⟨gb155, 1, none⟩ = some (.int .i64 a0_1) := (blk_cell BK155.out 1).trans rfl
          have hfz18_0 := blk_frozen BK155.out 0
          have hfz18_1 := blk_frozen BK155.out 1
          go_wp2
          go_ret
          exact ⟨by first | rfl | (simp [errW_none, errW_some] <;> rfl) | (simp [*, errW_none, errW_some] <;> rfl), by repeat (first | (with_reducible first | exact HB.out | apply below_alloc | apply pw_below_drewN | apply below_drew1 | refine below_set ?_ GE155.out) | exact HB.out)⟩

/-! ### impl_right: function 45 -/
def impl_right.f (k : Nat) (l0_0 : List Int) (a0_1 : Int) : Option (List Int × Int) := (impl_bitsOk.f k l0_0 a0_1).bind fun t159 => (if t159 = true then (if ([] : List Int).length + l0_0.length < 140737488355328 then (some ((([] : List Int) ++ l0_0), a0_1)) else (none)) else (some (([] : List Int), 0)))
theorem impl_right.mono : ∀ a0 a1 k, LeO (impl_right.f k a0 a1) (impl_right.f (k + 1) a0 a1) := by
  intro a0 a1 k
  unfold impl_right.f
  repeat' first
      | (with_reducible exact impl_bitsOk.mono _ _ _)
      | (with_reducible exact LeO.refl _)
      | (with_reducible exact LeO.none _)
      | (with_reducible refine LeO.ite ?_ ?_)
      | (with_reducible refine LeO.bind ?_ (fun _ => ?_))
      | exact impl_bitsOk.mono _ _ _
      | exact LeO.none _
      | refine LeO.ite ?_ ?_
      | refine LeO.bind ?_ (fun _ => ?_)
set_option maxHeartbeats 8000000 in
set_option maxRecDepth 100000 in
theorem impl_right.calls (k : Nat) (A0_0 : Option Addr) (c0_0 : Nat) (l0_0 : List Int) (a0_1 : Int) (r1 : List Int) (r2 : Int) (w : World) (hr0_0 : Kd.C (Kd.int .u8) w A0_0 l0_0.length l0_0) (hc0_0 : l0_0.length ≤ c0_0) (h : impl_right.f k l0_0 a0_1 = some (r1, r2)) :
    Calls Try.prog 45 #[.agg #[.slice A0_0 l0_0.length c0_0, .int .i64 a0_1]] w fun e w' => ∃ v0_ : Value, e = .returned (.agg #[v0_, .int .i64 r2]) ∧ Kd.R (Kd.int .u8) 5 w' w.heap.size (fun _ => True) v0_ r1 ∧ Below w.heap.size w w' := by
  have hu27 := Try.underlying27
  have HR0_0 := Aside0.mk hr0_0
  have HC0_0 := Aside0.mk hc0_0
  clear hr0_0 hc0_0
  have HB := Aside0.mk (Below.refl w.heap.size w)
  have H : ((impl_bitsOk.f k l0_0 a0_1).bind fun t159 => (if t159 = true then (if ([] : List Int).length + l0_0.length < 140737488355328 then (some ((([] : List Int) ++ l0_0), a0_1)) else (none)) else (some (([] : List Int), 0)))) = some (r1, r2) := h
  clear h
  replace H := Option.bind_eq_some_iff.mp H
  obtain ⟨t159, A20, H⟩ := H
  replace H : (if t159 = true then (if ([] : List Int).length + l0_0.length < 140737488355328 then (some ((([] : List Int) ++ l0_0), a0_1)) else (none)) else (some (([] : List Int), 0))) = some (r1, r2) := H
  have A2 := Aside0.mk A20
  clear A20
  by_cases c3 : t159 = true
  · subst c3
    have H1 : (if ([] : List Int).length + l0_0.length < 140737488355328 then (some ((([] : List Int) ++ l0_0), a0_1)) else (none)) = some (r1, r2) := by rw [if_pos rfl] at H; exact H
    clear H
    have H := H1
    clear H1
    by_cases c4 : ([] : List Int).length + l0_0.length < 140737488355328
    · rw [if_pos c4] at H
      have LMc4 := Aside0.mk c4
      clear c4
      obtain ⟨y160, hy160⟩ : ∃ y_ : List Int, y_ = (([] : List Int) ++ l0_0) := ⟨_, rfl⟩
      replace H : (some (y160, a0_1)) = some (r1, r2) := by first | (rw [hy160]; with_reducible exact H) | (have H2_ := (Option.bind_some _ _).symm.trans H; rw [hy160]; with_reducible exact H2_) | (have H2_ := (Option.bind_some _ _).symm.trans H; with_reducible exact H2_) | with_reducible exact H | (rw [hy160]; exact H) | exact H
      have Ny160 := Aside0.mk hy160
      clear hy160
      simp only [Option.some.injEq, Prod.mk.injEq] at H
      obtain ⟨rfl, rfl⟩ := H
      go_enter Try.func45, Try.ntmps45
      try go_wp2_with (first | ((with_reducible refine gate_dst (N := 1) rfl ?_); refine box_event ?hg (N := 1) ?hd (cs := #[.slice A0_0 l0_0.length c0_0, .int .i64 a0_1]) (t := 27) ?hr ?_; (case hd => rfl); (case hg => rfl); (case hr => first | (go_simp; done) | (go_simp; rfl)); intro gb157 hg w5 hbox hb; have n0_ := Aside0.mk (below_step (by repeat (first | (with_reducible first | exact HB.out | apply below_alloc | apply pw_below_drewN | apply below_drew1) | exact HB.out)) hb); have n1_ := Aside0.mk (hbox); have n2_ := Aside0.mk ((by rw [hg]; exact (below_size (by repeat (first | (with_reducible first | exact HB.out | apply below_alloc | apply pw_below_drewN | apply below_drew1) | exact HB.out))) : w.heap.size ≤ gb157)); have n3_ := Aside0.mk ((by rw [hg]; exact (below_size (by repeat (first | (with_reducible first | exact HB.out | apply below_alloc | apply pw_below_drewN | apply below_drew1) | exact HB.out))) : w.heap.size ≤ gb157)); clear HB; have HB := n0_; have BK157 := n1_; have GW157 := n2_; have GE157 := n3_; clear n0_ n1_ n2_ n3_; clear hb hbox hg) | ((with_reducible refine gate_dst (N := 2) rfl ?_); refine box_event ?hg (N := 2) ?hd (cs := #[.slice none 0 0, .int .i64 0]) (t := 27) ?hr ?_; (case hd => rfl); (case hg => rfl); (case hr => first | (go_simp; done) | (go_simp; rfl)); intro gb158 hg w6 hbox hb; have n0_ := Aside0.mk (blk_below (g := gb157) (o := .cells #[.slice A0_0 l0_0.length c0_0, .int .i64 a0_1] 27 (0, 0)) (by (with_reducible repeat (first | refine blk_drewN ?_ _ | refine blk_drew ?_ | refine blk_alloc ?_ _)); exact BK157.out) hb); have n1_ := Aside0.mk (below_step (by repeat (first | (with_reducible first | exact HB.out | apply below_alloc | apply pw_below_drewN | apply below_drew1 | refine below_set ?_ GE157.out) | exact HB.out)) hb); have n2_ := Aside0.mk (hbox); have n3_ := Aside0.mk ((by rw [hg]; exact (below_size (by repeat (first | (with_reducible first | exact HB.out | apply below_alloc | apply pw_below_drewN | apply below_drew1 | refine below_set ?_ GE157.out) | exact HB.out))) : w.heap.size ≤ gb158)); have n4_ := Aside0.mk ((by rw [hg]; exact (below_size (by repeat (first | (with_reducible first | exact HB.out | apply below_alloc | apply pw_below_drewN | apply below_drew1 | refine below_set ?_ GE157.out) | exact HB.out))) : w.heap.size ≤ gb158)); have n5_ := Aside0.mk ((by rw [hg]; exact Nat.ne_of_lt (blk_lt (g := gb157) (o := .cells #[.slice A0_0 l0_0.length c0_0, .int .i64 a0_1] 27 (0, 0)) (by (with_reducible repeat (first | refine blk_drewN ?_ _ | refine blk_drew ?_ | refine blk_alloc ?_ _)); exact BK157.out)) : gb157 ≠ gb158)); have n6_ := Aside0.mk ((by rw [hg]; exact Nat.ne_of_gt (blk_lt (g := gb157) (o := .cells #[.slice A0_0 l0_0.length c0_0, .int .i64 a0_1] 27 (0, 0)) (by (with_reducible repeat (first | refine blk_drewN ?_ _ | refine blk_drew ?_ | refine blk_alloc ?_ _)); exact BK157.out)) : gb158 ≠ gb157)); clear BK157; clear HB; have BK157 := n0_; have HB := n1_; have BK158 := n2_; have GW158 := n3_; have GE158 := n4_; have NB157_158 := n5_; have NB158_157 := n6_; clear n0_ n1_ n2_ n3_ n4_ n5_ n6_; clear hb hbox hg; have hnb7 := NB157_158.out; have hnc7 := NB158_157.out; have hcz8_0 : w6.cell? ⟨gb157, 0, none⟩ = some (.slice A0_0 l0_0.length c0_0) := (blk_cell BK157.out 0).trans rfl; have hcz8_1 : w6.cell? ⟨gb157, 1, none⟩ = some (.int .i64 a0_1) := (blk_cell BK157.out 1).trans rfl; have hfz8_0 := blk_frozen BK157.out 0; have hfz8_1 := blk_frozen BK157.out 1) | ((with_reducible refine gate_callee (f := 78) rfl ?_); refine goesL_ (some 4) rfl rfl Try.func78 (by kernel_rfl) rfl #[.agg #[.slice A0_0 l0_0.length c0_0, .int .i64 a0_1]] rfl (by (try simp only [List.map_toArray, List.map_cons, List.map_nil]); first | done | rfl | (simp only [List.length_drop, List.length_take]; rfl)) ?_; (with_reducible refine (impl_bitsOk.calls k _ _ l0_0 a0_1 true _ ?side1 ?side2 A2.out).mono ?_); (case side1 => repeat (first | exact (Kd.C_below HR0_0.out HB.out) | (with_reducible refine Kd.C_alloc ?_ _) | (with_reducible refine Kd.C_drewN ?_ _) | (with_reducible refine Kd.C_drew ?_))); (case side2 => exact HC0_0.out); rintro e w9 ⟨rfl, hb⟩; refine ⟨_, rfl, ?_⟩; have n0_ := Aside0.mk (blk_below (g := gb157) (o := .cells #[.slice A0_0 l0_0.length c0_0, .int .i64 a0_1] 27 (0, 0)) (by (with_reducible repeat (first | refine blk_drewN ?_ _ | refine blk_drew ?_ | refine blk_alloc ?_ _)); exact BK157.out) hb); have n1_ := Aside0.mk (blk_below (g := gb158) (o := .cells #[.slice none 0 0, .int .i64 0] 27 (0, 0)) (by (with_reducible repeat (first | refine blk_drewN ?_ _ | refine blk_drew ?_ | refine blk_alloc ?_ _)); exact BK158.out) hb); have n2_ := Aside0.mk (below_step (by repeat (first | (with_reducible first | exact HB.out | apply below_alloc | apply pw_below_drewN | apply below_drew1 | refine below_set ?_ GE157.out | refine below_set ?_ GE158.out) | exact HB.out)) hb); clear BK157; clear BK158; clear HB; have BK157 := n0_; have BK158 := n1_; have HB := n2_; clear n0_ n1_ n2_; (try clear hb); (try clear hb2); (try clear hk); (try clear hi)))
      have n0_ := Aside0.mk (blk_drew BK157.out)
      have n1_ := Aside0.mk (blk_drew BK158.out)
      have n2_ := Aside0.mk (below_drew1 HB.out)
      clear BK157
      clear BK158
      clear HB
      have BK157 := n0_
      have BK158 := n1_
      have HB := n2_
      clear n0_ n1_ n2_
      refine start_ (n := 7) (S := fun w' => w'.cell? ⟨gb157, 0, none⟩ = some (.slice A0_0 l0_0.length c0_0) ∧ w'.cell? ⟨gb157, 1, none⟩ = some (.int .i64 a0_1)) (ds := []) #[false, false, false, false, false, false, false] (by kernel_rfl) rfl rfl ⟨(blk_cell BK157.out 0).trans rfl, (blk_cell BK157.out 1).trans rfl⟩ (fun hHeld => ?_)
      generalize w9.drew = w10 at BK157 BK158 HB hHeld ⊢
      refine pure_ (i := 0) (N := some 7) (v := ?_) (a' := ?_) #[true, false, false, false, false, false, false] rfl rfl (by kernel_rfl) (fun _ _ _ h => h) (Or.inl ⟨by rfl, ?_⟩) ?_ ?_
      rotate_left
      · intro w'
        go_simp
        with_reducible rfl
      rotate_left
      · simp only [Act.put, List.setIfInBounds_toArray, List.set_cons_zero, List.set_cons_succ, i64_w, i32_w]
        rfl
      refine pure_ (i := 3) (N := some 10) (v := ?_) (a' := ?_) #[true, false, false, true, false, false, false] rfl rfl (by kernel_rfl) (fun _ _ _ h => h) (Or.inl ⟨by rfl, ?_⟩) ?_ ?_
      rotate_left
      · intro w'
        go_simp
        with_reducible rfl
      rotate_left
      · simp only [Act.put, List.setIfInBounds_toArray, List.set_cons_zero, List.set_cons_succ, i64_w, i32_w]
        rfl
      refine take_ (i := 1) (N := some 8) (v := ?_) (a' := ?_) #[true, true, false, true, false, false, false] rfl rfl (by kernel_rfl) (fun _ _ _ h => h) (Or.inl ⟨by rfl, ?_⟩) hHeld ?_ ?_
      rotate_left
      · rintro w' ⟨s0, s1⟩
        go_simp
        with_reducible rfl
      rotate_left
      · simp only [Act.put, List.setIfInBounds_toArray, List.set_cons_zero, List.set_cons_succ, i64_w, i32_w]
        rfl
      refine take_ (i := 4) (N := some 11) (v := ?_) (a' := ?_) #[true, true, false, true, true, false, false] rfl rfl (by kernel_rfl) (fun _ _ _ h => h) (Or.inl ⟨by rfl, ?_⟩) hHeld ?_ ?_
      rotate_left
      · rintro w' ⟨s0, s1⟩
        go_simp
        with_reducible rfl
      rotate_left
      · simp only [Act.put, List.setIfInBounds_toArray, List.set_cons_zero, List.set_cons_succ, i64_w, i32_w]
        rfl
      refine one_ (i := 2) (N := some 9) #[true, true, true, true, true, false, false] rfl rfl (by kernel_rfl) (by decide) (fun K hK => ?_)
      refine Kd.R_append_rows_step (Kd.int .u8) (w0 := w) w.heap.size rfl (.const (.slice none 0 0)) (.tmp 8) 22 5 (.int .u8 0) 1 rfl Try.underlying22 info5 rfl (by decide) (by omega) (.slice none 0 0) ([] : List Int) l0_0 _ _ _ (fun _ => True) (fun _ => False) rfl rfl ?aO ?aR (fun _ _ h => h) (fun _ h => h.elim) ?aF ?aB ?aS ?aL ?_
      (case aR => repeat (first | exact (Kd.C_below HR0_0.out HB.out) | (with_reducible refine Kd.C_alloc ?_ _) | (with_reducible refine Kd.C_drewN ?_ _) | (with_reducible refine Kd.C_drew ?_)))
      (case aB => exact (by repeat (first | (with_reducible first | exact HB.out | apply below_alloc | apply pw_below_drewN | apply below_drew1 | refine below_set ?_ GE157.out | refine below_set ?_ GE158.out) | exact HB.out)))
      (case aF => exact (fun _ _ => trivial))
      (case aO => exact ((Kd.R_nil _ _ _ _ (fun _ => True))))
      (case aS => exact (below_size (by repeat (first | (with_reducible first | exact HB.out | apply below_alloc | apply pw_below_drewN | apply below_drew1 | refine below_set ?_ GE157.out | refine below_set ?_ GE158.out) | exact HB.out))))
      (case aL => have := LMc4.out; omega)
      intro v161 w11 ho hb hg hat
      rw [← Ny160.out] at ho
      have n0_ := Aside0.mk (blk_grown (g := gb157) (o := .cells #[.slice A0_0 l0_0.length c0_0, .int .i64 a0_1] 27 (0, 0)) (by (with_reducible repeat (first | refine blk_drewN ?_ _ | refine blk_drew ?_ | refine blk_alloc ?_ _)); exact BK157.out) hg (by simp [Value.ownBlock]))
      have n1_ := Aside0.mk (blk_grown (g := gb158) (o := .cells #[.slice none 0 0, .int .i64 0] 27 (0, 0)) (by (with_reducible repeat (first | refine blk_drewN ?_ _ | refine blk_drew ?_ | refine blk_alloc ?_ _)); exact BK158.out) hg (by simp [Value.ownBlock]))
      have n2_ := Aside0.mk (hb)
      have n3_ := Aside0.mk (ho)
      clear BK157
      clear BK158
      clear HB
      have BK157 := n0_
      have BK158 := n1_
      have HB := n2_
      have HO162 := n3_
      clear n0_ n1_ n2_ n3_
      clear ho hb hg hat
      obtain ⟨Ao12, co12, eo12⟩ := Kd.R_slice HO162.out
      (first | subst eo12 | (injection eo12 with f1_ f2_ f3_; have f4_ := f1_.symm; have f5_ := f3_.symm; clear f1_ f2_ f3_; subst f4_; subst f5_))
      refine hK.out _ _ ⟨(blk_cell BK157.out 0).trans rfl, (blk_cell BK157.out 1).trans rfl⟩ (fun hHeld => ?_)
      clear hK K
      refine norm_ (a' := ?_) ?_ ?_
      rotate_left
      · show Act.put _ (some 9) _ = _
        simp only [Act.put, List.setIfInBounds_toArray, List.set_cons_zero, List.set_cons_succ, i64_w, i32_w]
        rfl
      refine pure_ (i := 5) (N := some 12) (v := ?_) (a' := ?_) #[true, true, true, true, true, true, false] rfl rfl (by kernel_rfl) (fun _ _ _ h => h) (Or.inl ⟨by rfl, ?_⟩) ?_ ?_
      rotate_left
      · intro w'
        go_simp
        with_reducible rfl
      rotate_left
      · simp only [Act.put, List.setIfInBounds_toArray, List.set_cons_zero, List.set_cons_succ, i64_w, i32_w]
        rfl
      refine one_ (i := 6) (N := none) #[true, true, true, true, true, true, true] rfl rfl (by kernel_rfl) (by decide) (fun K hK => ?_)
      have hs13 : w11.cell? ⟨gb158, 0, none⟩ = some (.slice none 0 0) := (blk_cell BK158.out 0).trans rfl
      have hfs13 := blk_frozen BK158.out 0
      have hns13_0 := NB157_158.out
      have hms13_0 := NB158_157.out
      have hs14 : w11.cell? ⟨gb158, 1, none⟩ = some (.int .i64 0) := (blk_cell BK158.out 1).trans rfl
      have hfs14 := blk_frozen BK158.out 1
      have hns14_0 := NB157_158.out
      have hms14_0 := NB158_157.out
      refine skip_ (w1 := ?_) (by rfl) rfl ?_ ?_
      rotate_left
      · go_simp
        rfl
      refine hK.out _ _ ⟨((cell_far (p := ⟨gb158, _, none⟩) NB157_158.out _).trans (((cell_far (p := ⟨gb158, _, none⟩) NB157_158.out _).trans (hHeld.1)))), ((cell_far (p := ⟨gb158, _, none⟩) NB157_158.out _).trans (((cell_far (p := ⟨gb158, _, none⟩) NB157_158.out _).trans (hHeld.2))))⟩ (fun hHeld => ?_)
      clear hK K
      refine done_ (by kernel_rfl) ?_
      try go_wp2
      refine bodyPost_ret (results_cell_row rfl _ _ gb158 27 #[.slice Ao12 y160.length co12, .int .i64 a0_1] (0, 0) _ rfl (by (with_reducible repeat (first | refine blk_drewN ?_ _ | refine blk_drew ?_ | refine blk_alloc ?_ _)); refine blk_put (cs := #[.slice Ao12 y160.length co12, .int .i64 0]) ?_ 1 _ rfl; (with_reducible repeat (first | refine blk_drewN ?_ _ | refine blk_drew ?_ | refine blk_alloc ?_ _)); refine blk_put (cs := #[.slice none 0 0, .int .i64 0]) ?_ 0 _ rfl; (with_reducible repeat (first | refine blk_drewN ?_ _ | refine blk_drew ?_ | refine blk_alloc ?_ _)); exact BK158.out) Try.underlying27 rfl (by kernel_rfl)) rfl ?_
      exact ⟨_, by first | rfl | (simp [errW_none, errW_some] <;> rfl) | (simp [*, errW_none, errW_some] <;> rfl), by (with_reducible repeat (first | apply Kd.R_alloc | apply Kd.R_drewN | apply Kd.R_drew)); exact Kd.R_mono (Kd.R_far (p := ⟨gb158, 1, none⟩) (Kd.R_far (p := ⟨gb158, 0, none⟩) (Kd.R_types HO162.out BK158.out (by decide)) (fun _ hk => hk.2) (.slice Ao12 y160.length co12)) (fun _ hk => hk.2) (.int .i64 a0_1)) (fun _ hk => trivial), by repeat (first | (with_reducible first | exact HB.out | apply below_alloc | apply pw_below_drewN | apply below_drew1 | refine below_set ?_ GE157.out | refine below_set ?_ GE158.out) | exact HB.out)⟩
    · rw [if_neg c4] at H
      exact absurd H (by simp)
  · replace c3 := Bool.eq_false_iff.mpr c3
    subst c3
    have H1 : (some (([] : List Int), 0)) = some (r1, r2) := by rw [if_neg (show ¬ (false = true) by decide)] at H; exact H
    clear H
    have H := H1
    clear H1
    simp only [Option.some.injEq, Prod.mk.injEq] at H
    obtain ⟨rfl, rfl⟩ := H
    go_enter Try.func45, Try.ntmps45
    go_wp2_with (first | ((with_reducible refine gate_dst (N := 1) rfl ?_); refine box_event ?hg (N := 1) ?hd (cs := #[.slice A0_0 l0_0.length c0_0, .int .i64 a0_1]) (t := 27) ?hr ?_; (case hd => rfl); (case hg => rfl); (case hr => first | (go_simp; done) | (go_simp; rfl)); intro gb157 hg w15 hbox hb; have n0_ := Aside0.mk (below_step (by repeat (first | (with_reducible first | exact HB.out | apply below_alloc | apply pw_below_drewN | apply below_drew1) | exact HB.out)) hb); have n1_ := Aside0.mk (hbox); have n2_ := Aside0.mk ((by rw [hg]; exact (below_size (by repeat (first | (with_reducible first | exact HB.out | apply below_alloc | apply pw_below_drewN | apply below_drew1) | exact HB.out))) : w.heap.size ≤ gb157)); have n3_ := Aside0.mk ((by rw [hg]; exact (below_size (by repeat (first | (with_reducible first | exact HB.out | apply below_alloc | apply pw_below_drewN | apply below_drew1) | exact HB.out))) : w.heap.size ≤ gb157)); clear HB; have HB := n0_; have BK157 := n1_; have GW157 := n2_; have GE157 := n3_; clear n0_ n1_ n2_ n3_; clear hb hbox hg) | ((with_reducible refine gate_dst (N := 2) rfl ?_); refine box_event ?hg (N := 2) ?hd (cs := #[.slice none 0 0, .int .i64 0]) (t := 27) ?hr ?_; (case hd => rfl); (case hg => rfl); (case hr => first | (go_simp; done) | (go_simp; rfl)); intro gb158 hg w16 hbox hb; have n0_ := Aside0.mk (blk_below (g := gb157) (o := .cells #[.slice A0_0 l0_0.length c0_0, .int .i64 a0_1] 27 (0, 0)) (by (with_reducible repeat (first | refine blk_drewN ?_ _ | refine blk_drew ?_ | refine blk_alloc ?_ _)); exact BK157.out) hb); have n1_ := Aside0.mk (below_step (by repeat (first | (with_reducible first | exact HB.out | apply below_alloc | apply pw_below_drewN | apply below_drew1 | refine below_set ?_ GE157.out) | exact HB.out)) hb); have n2_ := Aside0.mk (hbox); have n3_ := Aside0.mk ((by rw [hg]; exact (below_size (by repeat (first | (with_reducible first | exact HB.out | apply below_alloc | apply pw_below_drewN | apply below_drew1 | refine below_set ?_ GE157.out) | exact HB.out))) : w.heap.size ≤ gb158)); have n4_ := Aside0.mk ((by rw [hg]; exact (below_size (by repeat (first | (with_reducible first | exact HB.out | apply below_alloc | apply pw_below_drewN | apply below_drew1 | refine below_set ?_ GE157.out) | exact HB.out))) : w.heap.size ≤ gb158)); have n5_ := Aside0.mk ((by rw [hg]; exact Nat.ne_of_lt (blk_lt (g := gb157) (o := .cells #[.slice A0_0 l0_0.length c0_0, .int .i64 a0_1] 27 (0, 0)) (by (with_reducible repeat (first | refine blk_drewN ?_ _ | refine blk_drew ?_ | refine blk_alloc ?_ _)); exact BK157.out)) : gb157 ≠ gb158)); have n6_ := Aside0.mk ((by rw [hg]; exact Nat.ne_of_gt (blk_lt (g := gb157) (o := .cells #[.slice A0_0 l0_0.length c0_0, .int .i64 a0_1] 27 (0, 0)) (by (with_reducible repeat (first | refine blk_drewN ?_ _ | refine blk_drew ?_ | refine blk_alloc ?_ _)); exact BK157.out)) : gb158 ≠ gb157)); clear BK157; clear HB; have BK157 := n0_; have HB := n1_; have BK158 := n2_; have GW158 := n3_; have GE158 := n4_; have NB157_158 := n5_; have NB158_157 := n6_; clear n0_ n1_ n2_ n3_ n4_ n5_ n6_; clear hb hbox hg; have hnb17 := NB157_158.out; have hnc17 := NB158_157.out; have hcz18_0 : w16.cell? ⟨gb157, 0, none⟩ = some (.slice A0_0 l0_0.length c0_0) := (blk_cell BK157.out 0).trans rfl; have hcz18_1 : w16.cell? ⟨gb157, 1, none⟩ = some (.int .i64 a0_1) := (blk_cell BK157.out 1).trans rfl; have hfz18_0 := blk_frozen BK157.out 0; have hfz18_1 := blk_frozen BK157.out 1) | ((with_reducible refine gate_callee (f := 78) rfl ?_); refine goesL_ (some 4) rfl rfl Try.func78 (by kernel_rfl) rfl #[.agg #[.slice A0_0 l0_0.length c0_0, .int .i64 a0_1]] rfl (by (try simp only [List.map_toArray, List.map_cons, List.map_nil]); first | done | rfl | (simp only [List.length_drop, List.length_take]; rfl)) ?_; (with_reducible refine (impl_bitsOk.calls k _ _ l0_0 a0_1 false _ ?side1 ?side2 A2.out).mono ?_); (case side1 => repeat (first | exact (Kd.C_below HR0_0.out HB.out) | (with_reducible refine Kd.C_alloc ?_ _) | (with_reducible refine Kd.C_drewN ?_ _) | (with_reducible refine Kd.C_drew ?_))); (case side2 => exact HC0_0.out); rintro e w19 ⟨rfl, hb⟩; refine ⟨_, rfl, ?_⟩; have n0_ := Aside0.mk (blk_below (g := gb157) (o := .cells #[.slice A0_0 l0_0.length c0_0, .int .i64 a0_1] 27 (0, 0)) (by (with_reducible repeat (first | refine blk_drewN ?_ _ | refine blk_drew ?_ | refine blk_alloc ?_ _)); exact BK157.out) hb); have n1_ := Aside0.mk (blk_below (g := gb158) (o := .cells #[.slice none 0 0, .int .i64 0] 27 (0, 0)) (by (with_reducible repeat (first | refine blk_drewN ?_ _ | refine blk_drew ?_ | refine blk_alloc ?_ _)); exact BK158.out) hb); have n2_ := Aside0.mk (below_step (by repeat (first | (with_reducible first | exact HB.out | apply below_alloc | apply pw_below_drewN | apply below_drew1 | refine below_set ?_ GE157.out | refine below_set ?_ GE158.out) | exact HB.out)) hb); clear BK157; clear BK158; clear HB; have BK157 := n0_; have BK158 := n1_; have HB := n2_; clear n0_ n1_ n2_; (try clear hb); (try clear hb2); (try clear hk); (try clear hi); have hcz20_0 : w19.cell? ⟨gb158, 0, none⟩ = some (.slice none 0 0) := (blk_cell BK158.out 0).trans rfl; have hcz20_1 : w19.cell? ⟨gb158, 1, none⟩ = some (.int .i64 0) := (blk_cell BK158.out 1).trans rfl; have hfz20_0 := blk_frozen BK158.out 0; have hfz20_1 := blk_frozen BK158.out 1))
    refine bodyPost_ret (results_cell_row rfl _ _ gb158 27 #[.slice none 0 0, .int .i64 0] (0, 0) _ rfl (by (with_reducible repeat (first | refine blk_drewN ?_ _ | refine blk_drew ?_ | refine blk_alloc ?_ _)); refine blk_put (cs := #[.slice none 0 0, .int .i64 0]) ?_ 1 _ rfl; (with_reducible repeat (first | refine blk_drewN ?_ _ | refine blk_drew ?_ | refine blk_alloc ?_ _)); refine blk_put (cs := #[.slice none 0 0, .int .i64 0]) ?_ 0 _ rfl; (with_reducible repeat (first | refine blk_drewN ?_ _ | refine blk_drew ?_ | refine blk_alloc ?_ _)); exact BK158.out) Try.underlying27 rfl (by kernel_rfl)) rfl ?_
    exact ⟨_, by first | rfl | (simp [errW_none, errW_some] <;> rfl) | (simp [*, errW_none, errW_some] <;> rfl), by first | exact Kd.R_nil _ _ _ _ _ | exact Kd.N_nil _ _ _ _ _ | exact Kd.V_nil _ _ _ _ _ | exact Kd.Q_nil _ _ _ _ _ | exact Kd.S_nil _ _ _ _ _, by repeat (first | (with_reducible first | exact HB.out | apply below_alloc | apply pw_below_drewN | apply below_drew1 | refine below_set ?_ GE157.out | refine below_set ?_ GE158.out) | exact HB.out)⟩

/-! ### impl_fits: function 46 -/
def impl_fits.f (a0 : Int) (a1 : Int) : Option (Bool) := if a1 ≥ 1 then (if a1 ≤ 64 then (if a1 = 64 then (some true) else (if 0 ≤ a1 then (some ((shr .u64 a0 a1) == 0)) else (none))) else (some false)) else (some false)
set_option maxHeartbeats 8000000 in
set_option maxRecDepth 100000 in
theorem impl_fits.calls (a0 : Int) (a1 : Int) (r : Bool) (w : World) (h : impl_fits.f a0 a1 = some r) :
    Calls Try.prog 46 #[.int .u64 a0, .int .i64 a1] w fun e w' => e = .returned (.bool r) ∧ Drawn0 w w' := by
  have H : (if a1 ≥ 1 then (if a1 ≤ 64 then (if a1 = 64 then (some true) else (if 0 ≤ a1 then (some ((shr .u64 a0 a1) == 0)) else (none))) else (some false)) else (some false)) = some r := h
  clear h
  by_cases c3 : a1 ≥ 1
  · rw [if_pos c3] at H
    have c3b0 : decide (1 ≤ a1) = true := decide_eq_true c3
    clear c3
    by_cases c4 : a1 ≤ 64
    · rw [if_pos c4] at H
      have c4b0 : decide (a1 ≤ 64) = true := decide_eq_true c4
      clear c4
      by_cases c5 : a1 = 64
      · rw [if_pos c5] at H
        have c5b0 : (a1 == 64) = true := beq_iff_eq.mpr c5
        have c5b1 : (a1 != 64) = false := bne_eq_false_iff_eq.mpr c5
        clear c5
        obtain rfl := Option.some.inj H
        go_enter Try.func46, Try.ntmps46
        go_wp2
        go_ret
        exact ⟨by first | rfl | (simp; done) | (simp [*]; done), by repeat (first | exact Drawn0.refl _ | apply Drawn0.step)⟩
      · rw [if_neg c5] at H
        have c5b0 : (a1 == 64) = false := beq_eq_false_iff_ne.mpr c5
        have c5b1 : (a1 != 64) = true := bne_iff_ne.mpr c5
        by_cases c6 : 0 ≤ a1
        · rw [if_pos c6] at H
          have c6b0 := eq_true c6
          have c6b1 : decide (0 ≤ a1) = true := decide_eq_true c6
          clear c6
          obtain ⟨ji7, hji7⟩ : ∃ j_ : Int, (shr .u64 a0 a1) = j_ := ⟨_, rfl⟩
          replace H : (some ((ji7) == 0)) = some r := by first | (rw [hji7] at H; exact H) | (simp only [hji7] at H ⊢; exact H)
          have hji7_ : (a0 / 2 ^ min a1.toNat 64) = ji7 := hji7
          have hji7z : a1 ≤ 64 → (a0 / 2 ^ a1.toNat) = ji7 := shr_small hji7
          obtain rfl := Option.some.inj H
          go_enter Try.func46, Try.ntmps46
          go_wp2
          go_ret
          exact ⟨by first | rfl | (simp; done) | (simp only [← hji7] <;> (first | rfl | simp)) | (simp [*]; done), by repeat (first | exact Drawn0.refl _ | apply Drawn0.step)⟩
        · rw [if_neg c6] at H
          exact absurd H (by simp)
    · rw [if_neg c4] at H
      have c4b0 : decide (a1 ≤ 64) = false := decide_eq_false c4
      clear c4
      obtain rfl := Option.some.inj H
      go_enter Try.func46, Try.ntmps46
      go_wp2
      go_ret
      exact ⟨by first | rfl | (simp; done) | (simp [*]; done), by repeat (first | exact Drawn0.refl _ | apply Drawn0.step)⟩
  · rw [if_neg c3] at H
    have c3b0 : decide (1 ≤ a1) = false := decide_eq_false c3
    clear c3
    obtain rfl := Option.some.inj H
    go_enter Try.func46, Try.ntmps46
    go_wp2
    go_ret
    exact ⟨by first | rfl | (simp; done) | (simp [*]; done), by repeat (first | exact Drawn0.refl _ | apply Drawn0.step)⟩

/-! ### impl_Bits_put: function 47, by hand -/
def impl_Bits_put.at_ (l : List Int) (c a1 i : Int) : Option (List Int) :=
  if 0 ≤ wrap64 (Int.tdiv c 8) then (if wrap64 (Int.tdiv c 8) < (l.length : Int) then (if 0 ≤ i then (if 0 ≤ Int.tmod c 8 then
    some (l.set (wrap64 (Int.tdiv c 8)).toNat (Go.bits .or .u8 (rd l (wrap64 (Int.tdiv c 8))) (Go.bits .and .u64 (shr .u64 a1 i) 1 % 256 * 2 ^ (Int.tmod c 8).toNat % 256)))
    else none) else none) else none) else none
theorem impl_Bits_put.at_of {l : List Int} {c a1 i : Int} {m : List Int} (h : impl_Bits_put.at_ l c a1 i = some m) : 0 ≤ wrap64 (Int.tdiv c 8) ∧ wrap64 (Int.tdiv c 8) < (l.length : Int) ∧ 0 ≤ i ∧ 0 ≤ Int.tmod c 8 ∧
    m = l.set (wrap64 (Int.tdiv c 8)).toNat (Go.bits .or .u8 (rd l (wrap64 (Int.tdiv c 8))) (Go.bits .and .u64 (shr .u64 a1 i) 1 % 256 * 2 ^ (Int.tmod c 8).toNat % 256)) := by
  unfold impl_Bits_put.at_ at h
  by_cases q1 : 0 ≤ wrap64 (Int.tdiv c 8)
  · rw [if_pos q1] at h
    by_cases q2 : wrap64 (Int.tdiv c 8) < (l.length : Int)
    · rw [if_pos q2] at h
      by_cases q3 : 0 ≤ i
      · rw [if_pos q3] at h
        by_cases q4 : 0 ≤ Int.tmod c 8
        · rw [if_pos q4] at h
          exact ⟨q1, q2, q3, q4, (Option.some.inj h).symm⟩
        · rw [if_neg q4] at h
          cases h
      · rw [if_neg q3] at h
        cases h
    · rw [if_neg q2] at h
      cases h
  · rw [if_neg q1] at h
    cases h
def impl_Bits_put.l0 : Nat → Int → Int → Int → List Int → Int → Option (List Int × Int)
  | 0, _, _, _, _, _ => none
  | k + 1, a1, n, i, l, c => if i < n then (if Int.tmod c 8 = 0 then (if l.length < 140737488355328 then (impl_Bits_put.at_ (l ++ [0]) c a1 i).bind fun m => impl_Bits_put.l0 k a1 n (wrap64 (i + 1)) m (wrap64 (c + 1)) else none) else (impl_Bits_put.at_ l c a1 i).bind fun m => impl_Bits_put.l0 k a1 n (wrap64 (i + 1)) m (wrap64 (c + 1))) else some (l, c)
def impl_Bits_put.f (k : Nat) (l : List Int) (c a1 a2 : Int) : Option (List Int × Int) := impl_Bits_put.l0 k a1 a2 0 l c
theorem impl_Bits_put.mono_l : ∀ k, ∀ y0 y1 y2 y3 y4, LeO (impl_Bits_put.l0 k y0 y1 y2 y3 y4) (impl_Bits_put.l0 (k + 1) y0 y1 y2 y3 y4)
  | 0 => fun _ _ _ _ _ r h => by simp [impl_Bits_put.l0] at h
  | k + 1 => fun y0 y1 y2 y3 y4 => by
    have ih0 := impl_Bits_put.mono_l k
    unfold impl_Bits_put.l0
    exact LeO.ite (LeO.ite (LeO.ite (LeO.bind (LeO.refl _) (fun _ => ih0 _ _ _ _ _)) (LeO.none _)) (LeO.bind (LeO.refl _) (fun _ => ih0 _ _ _ _ _))) (LeO.refl _)
theorem impl_Bits_put.mono : ∀ a0 a1 a2 a3 k, LeO (impl_Bits_put.f k a0 a1 a2 a3) (impl_Bits_put.f (k + 1) a0 a1 a2 a3) := fun a0 a1 a2 a3 k => impl_Bits_put.mono_l k _ _ _ _ _
set_option maxHeartbeats 8000000 in
set_option maxRecDepth 100000 in
theorem impl_Bits_put.calls (k : Nat) (g : Nat) (u : Value) (l : List Int) (c a1 a2 : Int) (r1 : List Int) (r2 : Int) (w0 w : World) (P : Nat → Prop) (hB : Below w0.heap.size w0 w) (hg : w0.heap.size ≤ g)
    (hb : w.heap[g]? = some (.cells #[u, .int .i64 c] 27 (0, 0))) (ho : Kd.R (Kd.int .u8) 5 w w0.heap.size P u l) (h : impl_Bits_put.f k l c a1 a2 = some (r1, r2)) :
    Calls Try.prog 47 #[.pointer (some ⟨g, 0, none⟩), .int .u64 a1, .int .i64 a2] w fun e w' => e = .returned (.tuple #[]) ∧ (∃ u', w'.heap[g]? = some (.cells #[u', .int .i64 r2] 27 (0, 0)) ∧ Kd.R (Kd.int .u8) 5 w' w0.heap.size (fun k_ => P k_ ∨ w.heap.size ≤ k_) u' r1) ∧ Below w0.heap.size w0 w' ∧ Kept w w' (fun k_ => P k_ ∨ k_ = g) := by
  have hu27 := Try.underlying27
  have HG := Aside0.mk hg
  have BK := Aside0.mk hb
  have HO := Aside0.mk (show Kd.R (Kd.int .u8) 5 w w0.heap.size (fun k_ => P k_ ∨ w.heap.size ≤ k_) u l from Kd.R_mono ho (fun _ hk => .inl hk))
  have HK := Aside0.mk (Kept.refl w (fun k_ => P k_ ∨ k_ = g))
  have HB := Aside0.mk hB
  have H : impl_Bits_put.l0 k a1 a2 0 l c = some (r1, r2) := h
  have H' := Aside0.mk H
  clear hg hb ho hB h H
  go_enter Try.func47, Try.ntmps47
  go_wp2
  go_loopg [8] k (fun kq v8 w' => ∃ (i : Int) (u : Value) (l : List Int) (c : Int), v8 = .int .i64 i ∧ Aside0 (impl_Bits_put.l0 kq a1 a2 i l c = some (r1, r2)) ∧ Aside0 (kq ≤ k) ∧ Aside0 (w'.heap[g]? = some (.cells #[u, .int .i64 c] 27 (0, 0))) ∧ Aside0 (Kd.R (Kd.int .u8) 5 w' w0.heap.size (fun k_ => P k_ ∨ w.heap.size ≤ k_) u l) ∧ Aside0 (Below w0.heap.size w0 w') ∧ Aside0 (Kept w w' (fun k_ => P k_ ∨ k_ = g)))
  case atStart => exact ⟨0, u, l, c, rfl, H', ⟨Nat.le_refl _⟩, BK, HO, HB, HK⟩
  case round =>
    clear H' BK HO HB HK
    obtain ⟨i, u, l, c, rfl, HA, HK1, BK, HO, HB, HK⟩ := hrel
    cases gk with
    | zero => exact absurd HA.out (by simp [impl_Bits_put.l0])
    | succ k1 =>
      have H := HA.out
      clear HA
      simp only [impl_Bits_put.l0] at H
      by_cases c4 : i < a2
      · rw [if_pos c4] at H
        have c4b0 : decide (i < a2) = true := decide_eq_true c4
        clear c4
        by_cases c5 : Int.tmod c 8 = 0
        · rw [if_pos c5] at H
          have c5b0 : (Int.tmod c 8 == 0) = true := beq_iff_eq.mpr c5
          clear c5
          by_cases c6 : l.length < 140737488355328
          · rw [if_pos c6] at H
            have LM := Aside0.mk c6
            clear c6
            obtain ⟨m, A1, H⟩ := Option.bind_eq_some_iff.mp H
            have H' := Aside0.mk H
            clear H
            obtain ⟨y, hy⟩ : ∃ y_ : List Int, y_ = (l ++ [0]) := ⟨_, rfl⟩
            rw [← hy] at A1
            have Ny := Aside0.mk hy
            clear hy
            replace A1 := Aside0.mk A1
            obtain ⟨Ao, co, eo⟩ := Kd.R_slice HO.out
            subst eo
            have h0 : wr.cell? ⟨g, 0, none⟩ = some (.slice Ao l.length co) := (blk_cell BK.out 0).trans rfl
            have h1 : wr.cell? ⟨g, 1, none⟩ = some (.int .i64 c) := (blk_cell BK.out 1).trans rfl
            have hf0 := blk_frozen BK.out 0
            have hf1 := blk_frozen BK.out 1
            go_wp2_with (first | ((with_reducible refine gate_builtin (b := .append) (xs := #[.tmp 21, .tmp 22]) rfl ?_); at_builtin; refine Kd.R_append (Kd.int .u8) (w0 := w0) w0.heap.size rfl (.tmp 21) (.tmp 22) 22 5 (.int .u8 0) 1 rfl Try.underlying22 info5 rfl (by decide) (by omega) (.slice Ao l.length co) l 0 [.int .u8 0] (fun k_ => P k_ ∨ w.heap.size ≤ k_) (fun _ => False) rfl rfl ?aP (fun _ hk => hk.elim) ?aF ?aO ?aB ?aS ?aL ?_; (case aP => exact rfl); (case aB => exact HB.out); (case aF => exact (fun k_ hk => .inr (Nat.le_trans HK.out.1 hk))); (case aO => exact HO.out); (case aS => exact (below_size HB.out)); (case aL => have := LM.out; omega); intro v1 w1 ho hb hg1 hat; rw [← Ny.out] at ho; have n0_ := Aside0.mk (blk_grown (g := g) (o := .cells #[.slice Ao l.length co, .int .i64 c] 27 (0, 0)) BK.out hg1 (Kd.R_ne HO.out BK.out (by decide))); have n2_ := Aside0.mk (hb); have n4_ := Aside0.mk (ho); have n5_ := Aside0.mk (Kept.of_grown hg1 HK.out (fun k_ e_ => (HO.out.1 k_ e_).elim (fun h_ => .inl (.inl h_)) .inr)); clear HK; have HK := n5_; clear n5_; clear BK; clear HB; clear HO h0 h1 hf0 hf1; have BK := n0_; have HB := n2_; have HO := n4_; clear n0_ n2_ n4_; clear ho hb hg1 hat; obtain ⟨Ao1, co1, eo1⟩ := Kd.R_slice HO.out; subst eo1; have h0 : w1.cell? ⟨g, 0, none⟩ = some (.slice Ao l.length co) := (blk_cell BK.out 0).trans rfl; have h1 : w1.cell? ⟨g, 1, none⟩ = some (.int .i64 c) := (blk_cell BK.out 1).trans rfl; have hf0 := blk_frozen BK.out 0; have hf1 := blk_frozen BK.out 1))
            have n0_ : Aside0 (Kd.R (Kd.int .u8) 5 (w1.setCell ⟨g, 0, none⟩ (.slice Ao1 y.length co1)) w0.heap.size (fun k_ => P k_ ∨ w.heap.size ≤ k_) (.slice Ao1 y.length co1) y) := ⟨Kd.R_mono (Kd.R_far (p := ⟨g, 0, none⟩) (Kd.R_types HO.out BK.out (by decide)) (fun _ hk => hk.2) (.slice Ao1 y.length co1)) (fun _ hk => hk.1)⟩
            have n1_ : Aside0 ((w1.setCell ⟨g, 0, none⟩ (.slice Ao1 y.length co1)).heap[g]? = some (.cells #[.slice Ao1 y.length co1, .int .i64 c] 27 (0, 0))) := ⟨blk_put (cs := #[.slice Ao l.length co, .int .i64 c]) BK.out 0 _ rfl⟩
            have n2_ : Aside0 (Below w0.heap.size w0 (w1.setCell ⟨g, 0, none⟩ (.slice Ao1 y.length co1))) := ⟨below_set HB.out HG.out⟩
            have n3_ : Aside0 (Kept w (w1.setCell ⟨g, 0, none⟩ (.slice Ao1 y.length co1)) (fun k_ => P k_ ∨ k_ = g)) := ⟨Kept.setCell HK.out (.inl (.inr rfl)) _⟩
            clear BK HO HB HK h0 h1 hf0 hf1
            generalize (w1.setCell ⟨g, 0, none⟩ (.slice Ao1 y.length co1)) = w2 at n0_ n1_ n2_ n3_ ⊢
            have HK := n3_
            clear n3_
            have HO := n0_
            have BK := n1_
            have HB := n2_
            clear n0_ n1_ n2_
            obtain ⟨q1, q2, q3, q4, hm⟩ := impl_Bits_put.at_of A1.out
            clear A1
            obtain ⟨j, hj⟩ : ∃ j_ : Int, wrap64 (Int.tdiv c 8) = j_ := ⟨_, rfl⟩
            rw [hj] at q1 q2 hm
            obtain ⟨j2, hj2⟩ : ∃ j_ : Int, Int.tmod c 8 = j_ := ⟨_, rfl⟩
            have hmin : min j2.toNat 8 = j2.toNat := by have := Int.tmod_lt_of_pos c (show (0 : Int) < 8 by decide); omega
            rw [hj2] at q4 hm
            obtain ⟨j3, hj3⟩ : ∃ j_ : Int, shr .u64 a1 i = j_ := ⟨_, rfl⟩
            rw [hj3] at hm
            have Nm := Aside0.mk hm
            clear hm
            have hjw : (IntKind.i64.wrap (Int.tdiv c 8)) = j := (i64_w _).trans hj
            have hj3_ : (a1 / 2 ^ min i.toNat 64) = j3 := hj3
            have hj3z : i ≤ 64 → (a1 / 2 ^ i.toNat) = j3 := shr_small hj3
            have hqn : 0 < y.length := by omega
            obtain ⟨go, co', eo, gb, gl, cl, HGo⟩ := Kd.R_form HO.out hqn
            cases eo
            obtain ⟨hx, hf⟩ := Kd.R_celln 0 HO.out j q1 q2
            have HP := Aside0.mk (Kd.R_putn HO.out j (Go.bits .or .u8 (rd y j) (Go.bits .and .u64 j3 1 % 256 * 2 ^ j2.toNat % 256)))
            have h0 : w2.cell? ⟨g, 0, none⟩ = some (.slice (some ⟨go, 0, none⟩) y.length co1) := (blk_cell BK.out 0).trans rfl
            have h1 : w2.cell? ⟨g, 1, none⟩ = some (.int .i64 c) := (blk_cell BK.out 1).trans rfl
            have q1b : decide (0 ≤ j) = true := decide_eq_true q1
            have q2b : decide (j < (y.length : Int)) = true := decide_eq_true q2
            have q3b : decide (0 ≤ i) = true := decide_eq_true q3
            have q4b : decide (0 ≤ j2) = true := decide_eq_true q4
            replace q1 := eq_true q1
            replace q2 := eq_true q2
            replace q3 := eq_true q3
            replace q4 := eq_true q4
            have HG1 := Aside0.mk gl
            skip
            have HG3 := Aside0.mk HGo
            clear hqn gl HGo hj hj3
            go_still_tail 23, (by kernel_rfl)
            change wpList _ _ _ _ _ w2.drew
            have n0_ := Aside0.mk (blk_drew BK.out)
            have n1_ : Aside0 (Kd.R (Kd.int .u8) 5 (w2.drew.setCell ⟨go, j.toNat, none⟩ (.int .u8 (Go.bits .or .u8 (rd y j) (Go.bits .and .u64 j3 1 % 256 * 2 ^ j2.toNat % 256)))) w0.heap.size (fun k_ => P k_ ∨ w.heap.size ≤ k_) (.slice (some ⟨go, 0, none⟩) y.length co1) (y.set j.toNat (Go.bits .or .u8 (rd y j) (Go.bits .and .u64 j3 1 % 256 * 2 ^ j2.toNat % 256)))) := ⟨Kd.R_putn (Kd.R_drew HO.out) j _⟩
            have n2_ := Aside0.mk (below_drew1 HB.out)
            have hx1 : w2.drew.cell? ⟨go, j.toNat, none⟩ = some (.int .u8 (rd y j)) := hx
            have hf1 : w2.drew.frozen? ⟨go, j.toNat, none⟩ = false := hf
            have hne : g ≠ go := blk_ne BK.out HG3.out (by decide)
            have n3_ := Aside0.mk (Kept.drew HK.out)
            have hgo := Aside0.mk (HO.out.1 go rfl)
            clear BK HO HB HP HK h0 h1 hx hf HG1 HG3
            generalize w2.drew = w3 at n0_ n1_ n2_ n3_ hx1 hf1 ⊢
            have HK := n3_
            clear n3_
            have HNE := Aside0.mk hne
            clear hne
            have BK := n0_
            have HP := n1_
            have HB := n2_
            clear n0_ n1_ n2_
            have h1 : ∀ v : Value, (w3.setCell ⟨go, j.toNat, none⟩ v).cell? ⟨g, 1, none⟩ = some (.int .i64 c) := fun v => (blk_cell (blk_far BK.out HNE.out v) 1).trans rfl
            have hf2 : ∀ v : Value, (w3.setCell ⟨go, j.toNat, none⟩ v).frozen? ⟨g, 1, none⟩ = false := fun v => blk_frozen (blk_far BK.out (p := ⟨go, j.toNat, none⟩) HNE.out v) 1
            go_wp2
            go_roundg k1
            case measure => have := HK1.out; omega
            case rel => exact ⟨wrap64 (i + 1), .slice (some ⟨go, 0, none⟩) y.length co1, m, wrap64 (c + 1), rfl, H', ⟨by have := HK1.out; omega⟩, ⟨blk_put (cs := #[.slice (some ⟨go, 0, none⟩) y.length co1, .int .i64 c]) (blk_far BK.out HNE.out _) 1 _ rfl⟩, ⟨by rw [Nm.out]; exact Kd.R_mono (Kd.R_far (p := ⟨g, 1, none⟩) (Kd.R_types HP.out (blk_far BK.out HNE.out _) (by decide)) (fun _ hk => hk.2) _) (fun _ hk => hk.1)⟩, ⟨below_set (below_set HB.out gb) HG.out⟩, ⟨Kept.setCell (Kept.setCell HK.out (hgo.out.elim (fun h_ => .inl (.inl h_)) .inr) _) (.inl (.inr rfl)) _⟩⟩
          · rw [if_neg c6] at H
            exact absurd H (by simp)
        · rw [if_neg c5] at H
          have c5b0 : (Int.tmod c 8 == 0) = false := beq_eq_false_iff_ne.mpr c5
          clear c5
          obtain ⟨m, A1, H⟩ := Option.bind_eq_some_iff.mp H
          have H' := Aside0.mk H
          clear H
          replace A1 := Aside0.mk A1
          obtain ⟨Ao, co, eo⟩ := Kd.R_slice HO.out
          subst eo
          have h0 : wr.cell? ⟨g, 0, none⟩ = some (.slice Ao l.length co) := (blk_cell BK.out 0).trans rfl
          have h1 : wr.cell? ⟨g, 1, none⟩ = some (.int .i64 c) := (blk_cell BK.out 1).trans rfl
          go_wp2
          clear h0 h1
          obtain ⟨q1, q2, q3, q4, hm⟩ := impl_Bits_put.at_of A1.out
          clear A1
          obtain ⟨j, hj⟩ : ∃ j_ : Int, wrap64 (Int.tdiv c 8) = j_ := ⟨_, rfl⟩
          rw [hj] at q1 q2 hm
          obtain ⟨j2, hj2⟩ : ∃ j_ : Int, Int.tmod c 8 = j_ := ⟨_, rfl⟩
          have hmin : min j2.toNat 8 = j2.toNat := by have := Int.tmod_lt_of_pos c (show (0 : Int) < 8 by decide); omega
          rw [hj2] at q4 hm
          obtain ⟨j3, hj3⟩ : ∃ j_ : Int, shr .u64 a1 i = j_ := ⟨_, rfl⟩
          rw [hj3] at hm
          have Nm := Aside0.mk hm
          clear hm
          have hjw : (IntKind.i64.wrap (Int.tdiv c 8)) = j := (i64_w _).trans hj
          have hj3_ : (a1 / 2 ^ min i.toNat 64) = j3 := hj3
          have hj3z : i ≤ 64 → (a1 / 2 ^ i.toNat) = j3 := shr_small hj3
          have hqn : 0 < l.length := by omega
          obtain ⟨go, co', eo, gb, gl, cl, HGo⟩ := Kd.R_form HO.out hqn
          cases eo
          obtain ⟨hx, hf⟩ := Kd.R_celln 0 HO.out j q1 q2
          have HP := Aside0.mk (Kd.R_putn HO.out j (Go.bits .or .u8 (rd l j) (Go.bits .and .u64 j3 1 % 256 * 2 ^ j2.toNat % 256)))
          have h0 : wr.cell? ⟨g, 0, none⟩ = some (.slice (some ⟨go, 0, none⟩) l.length co) := (blk_cell BK.out 0).trans rfl
          have h1 : wr.cell? ⟨g, 1, none⟩ = some (.int .i64 c) := (blk_cell BK.out 1).trans rfl
          have q1b : decide (0 ≤ j) = true := decide_eq_true q1
          have q2b : decide (j < (l.length : Int)) = true := decide_eq_true q2
          have q3b : decide (0 ≤ i) = true := decide_eq_true q3
          have q4b : decide (0 ≤ j2) = true := decide_eq_true q4
          replace q1 := eq_true q1
          replace q2 := eq_true q2
          replace q3 := eq_true q3
          replace q4 := eq_true q4
          have HG1 := Aside0.mk gl
          skip
          have HG3 := Aside0.mk HGo
          clear hqn gl HGo hj hj3
          go_still_tail 23, (by kernel_rfl)
          change wpList _ _ _ _ _ wr.drew
          have n0_ := Aside0.mk (blk_drew BK.out)
          have n1_ : Aside0 (Kd.R (Kd.int .u8) 5 (wr.drew.setCell ⟨go, j.toNat, none⟩ (.int .u8 (Go.bits .or .u8 (rd l j) (Go.bits .and .u64 j3 1 % 256 * 2 ^ j2.toNat % 256)))) w0.heap.size (fun k_ => P k_ ∨ w.heap.size ≤ k_) (.slice (some ⟨go, 0, none⟩) l.length co) (l.set j.toNat (Go.bits .or .u8 (rd l j) (Go.bits .and .u64 j3 1 % 256 * 2 ^ j2.toNat % 256)))) := ⟨Kd.R_putn (Kd.R_drew HO.out) j _⟩
          have n2_ := Aside0.mk (below_drew1 HB.out)
          have hx1 : wr.drew.cell? ⟨go, j.toNat, none⟩ = some (.int .u8 (rd l j)) := hx
          have hf1 : wr.drew.frozen? ⟨go, j.toNat, none⟩ = false := hf
          have hne : g ≠ go := blk_ne BK.out HG3.out (by decide)
          have n3_ := Aside0.mk (Kept.drew HK.out)
          have hgo := Aside0.mk (HO.out.1 go rfl)
          clear BK HO HB HP HK h0 h1 hx hf HG1 HG3
          generalize wr.drew = w3 at n0_ n1_ n2_ n3_ hx1 hf1 ⊢
          have HK := n3_
          clear n3_
          have HNE := Aside0.mk hne
          clear hne
          have BK := n0_
          have HP := n1_
          have HB := n2_
          clear n0_ n1_ n2_
          have h1 : ∀ v : Value, (w3.setCell ⟨go, j.toNat, none⟩ v).cell? ⟨g, 1, none⟩ = some (.int .i64 c) := fun v => (blk_cell (blk_far BK.out HNE.out v) 1).trans rfl
          have hf2 : ∀ v : Value, (w3.setCell ⟨go, j.toNat, none⟩ v).frozen? ⟨g, 1, none⟩ = false := fun v => blk_frozen (blk_far BK.out (p := ⟨go, j.toNat, none⟩) HNE.out v) 1
          go_wp2
          go_roundg k1
          case measure => have := HK1.out; omega
          case rel => exact ⟨wrap64 (i + 1), .slice (some ⟨go, 0, none⟩) l.length co, m, wrap64 (c + 1), rfl, H', ⟨by have := HK1.out; omega⟩, ⟨blk_put (cs := #[.slice (some ⟨go, 0, none⟩) l.length co, .int .i64 c]) (blk_far BK.out HNE.out _) 1 _ rfl⟩, ⟨by rw [Nm.out]; exact Kd.R_mono (Kd.R_far (p := ⟨g, 1, none⟩) (Kd.R_types HP.out (blk_far BK.out HNE.out _) (by decide)) (fun _ hk => hk.2) _) (fun _ hk => hk.1)⟩, ⟨below_set (below_set HB.out gb) HG.out⟩, ⟨Kept.setCell (Kept.setCell HK.out (hgo.out.elim (fun h_ => .inl (.inl h_)) .inr) _) (.inl (.inr rfl)) _⟩⟩
      · rw [if_neg c4] at H
        have c4b0 : decide (i < a2) = false := decide_eq_false c4
        clear c4
        simp only [Option.some.injEq, Prod.mk.injEq] at H
        obtain ⟨rfl, rfl⟩ := H
        go_wp2
        go_end0
        exact ⟨rfl, ⟨u, BK.out, HO.out⟩, HB.out, HK.out⟩

/-! ### impl_PutBits: function 13, by hand -/
def impl_PutBits.f (k : Nat) (l0_0 : List Int) (a0_1 : Int) (a1 : Int) (a2 : Int) : Option (List Int × Int) := (impl_right.f k l0_0 a0_1).bind fun t => (impl_fits.f a1 a2).bind fun b => if b = true then impl_Bits_put.f k t.1 t.2 a1 a2 else some t
theorem impl_PutBits.mono : ∀ a0 a1 a2 a3 k, LeO (impl_PutBits.f k a0 a1 a2 a3) (impl_PutBits.f (k + 1) a0 a1 a2 a3) := by
  intro a0 a1 a2 a3 k
  unfold impl_PutBits.f
  refine LeO.bind (impl_right.mono _ _ _) (fun _ => LeO.bind (LeO.refl _) (fun _ => LeO.ite (impl_Bits_put.mono _ _ _ _ _) (LeO.refl _)))
set_option maxHeartbeats 8000000 in
set_option maxRecDepth 100000 in
theorem impl_PutBits.calls (k : Nat) (A0_0 : Option Addr) (c0_0 : Nat) (l0_0 : List Int) (a0_1 : Int) (a1 : Int) (a2 : Int) (r1 : List Int) (r2 : Int) (w : World) (hr0_0 : Kd.C (Kd.int .u8) w A0_0 l0_0.length l0_0) (hc0_0 : l0_0.length ≤ c0_0) (h : impl_PutBits.f k l0_0 a0_1 a1 a2 = some (r1, r2)) :
    Calls Try.prog 13 #[.agg #[.slice A0_0 l0_0.length c0_0, .int .i64 a0_1], .int .u64 a1, .int .i64 a2] w fun e w' => ∃ v0_ : Value, e = .returned (.agg #[v0_, .int .i64 r2]) ∧ Kd.R (Kd.int .u8) 5 w' w.heap.size (fun _ => True) v0_ r1 ∧ Below w.heap.size w w' := by
  have hu27 := Try.underlying27
  have HR := Aside0.mk hr0_0
  have HC := Aside0.mk hc0_0
  clear hr0_0 hc0_0
  have HB := Aside0.mk (Below.refl w.heap.size w)
  have H : ((impl_right.f k l0_0 a0_1).bind fun t => (impl_fits.f a1 a2).bind fun b => if b = true then impl_Bits_put.f k t.1 t.2 a1 a2 else some t) = some (r1, r2) := h
  clear h
  obtain ⟨⟨t1, t2⟩, A70, H⟩ := Option.bind_eq_some_iff.mp H
  have A7 := Aside0.mk A70
  clear A70
  obtain ⟨b, A80, H⟩ := Option.bind_eq_some_iff.mp H
  have A8 := Aside0.mk A80
  clear A80
  cases b with
  | false =>
    obtain ⟨rfl, rfl⟩ : t1 = r1 ∧ t2 = r2 := by
      simp only [Bool.false_eq_true, if_false, Option.some.injEq, Prod.mk.injEq] at H
      exact H
    clear H
    go_enter Try.func13, Try.ntmps13
    go_wp2_with (first | ((with_reducible refine gate_dst (N := 3) rfl ?_); refine box_event ?hg (N := 3) ?hd (cs := #[.slice A0_0 l0_0.length c0_0, .int .i64 a0_1]) (t := 27) ?hr ?_; (case hd => rfl); (case hg => rfl); (case hr => first | (go_simp; done) | (go_simp; rfl)); intro gb1 hg w1 hbox hb; have n0_ := Aside0.mk (below_step (by repeat (first | exact HB.out | apply below_alloc | apply pw_below_drewN | apply below_drew1 | refine below_set ?_ GE1.out | refine below_set ?_ GE2.out | refine below_set ?_ GE3.out)) hb); have n1_ := Aside0.mk hbox; have n2_ := Aside0.mk ((by rw [hg]; exact (below_size (by repeat (first | exact HB.out | apply below_alloc | apply pw_below_drewN | apply below_drew1 | refine below_set ?_ GE1.out | refine below_set ?_ GE2.out | refine below_set ?_ GE3.out)))) : w.heap.size ≤ gb1); clear HB; have HB := n0_; have BK1 := n1_; have GE1 := n2_; clear n0_ n1_ n2_; clear hbox hb hg) | ((with_reducible refine gate_dst (N := 6) rfl ?_); refine box_event ?hg (N := 6) ?hd (cs := #[.slice none 0 0, .int .i64 0]) (t := 27) ?hr ?_; (case hd => rfl); (case hg => rfl); (case hr => first | (go_simp; done) | (go_simp; rfl)); intro gb2 hg w2 hbox hb; have m1_ := Aside0.mk (blk_below BK1.out hb); have e1_ := Aside0.mk (by rw [hg]; exact Nat.ne_of_lt (blk_lt BK1.out) : gb1 ≠ gb2); have n0_ := Aside0.mk (below_step (by repeat (first | exact HB.out | apply below_alloc | apply pw_below_drewN | apply below_drew1 | refine below_set ?_ GE1.out | refine below_set ?_ GE2.out | refine below_set ?_ GE3.out)) hb); have n1_ := Aside0.mk hbox; have n2_ := Aside0.mk ((by rw [hg]; exact (below_size (by repeat (first | exact HB.out | apply below_alloc | apply pw_below_drewN | apply below_drew1 | refine below_set ?_ GE1.out | refine below_set ?_ GE2.out | refine below_set ?_ GE3.out)))) : w.heap.size ≤ gb2); clear HB; have HB := n0_; have BK2 := n1_; have GE2 := n2_; clear n0_ n1_ n2_; clear BK1; have BK1 := m1_; have NE12 := e1_; clear m1_ e1_; clear hbox hb hg; have h10 : w2.cell? ⟨gb1, 0, none⟩ = some (Value.slice A0_0 l0_0.length c0_0) := (blk_cell BK1.out 0).trans rfl; have h11 : w2.cell? ⟨gb1, 1, none⟩ = some (Value.int .i64 a0_1) := (blk_cell BK1.out 1).trans rfl) | ((with_reducible refine gate_callee (f := 45) rfl ?_); refine goesL_ (some 9) rfl rfl Try.func45 (by kernel_rfl) rfl #[.agg #[.slice A0_0 l0_0.length c0_0, .int .i64 a0_1]] rfl (by (try simp only [List.map_toArray, List.map_cons, List.map_nil]); first | done | rfl | (simp only [List.length_drop, List.length_take]; rfl)) ?_; (with_reducible refine (impl_right.calls k _ _ l0_0 a0_1 t1 t2 _ ?side1 ?side2 A7.out).mono ?_); (case side1 => repeat (first | exact (Kd.C_below HR.out HB.out) | (with_reducible refine Kd.C_alloc ?_ _) | (with_reducible refine Kd.C_drewN ?_ _) | (with_reducible refine Kd.C_drew ?_))); (case side2 => exact HC.out); rintro e w5 ⟨v5, rfl, ho0, hb⟩; refine ⟨_, rfl, ?_⟩; have n0_ := Aside0.mk (Kd.R_lower ho0 (below_size (by repeat (first | exact HB.out | apply below_alloc | apply pw_below_drewN | apply below_drew1 | refine below_set ?_ GE1.out | refine below_set ?_ GE2.out | refine below_set ?_ GE3.out)))); have n2_ := Aside0.mk (blk_below BK2.out hb); have n3_ := Aside0.mk (below_step (by repeat (first | exact HB.out | apply below_alloc | apply pw_below_drewN | apply below_drew1 | refine below_set ?_ GE1.out | refine below_set ?_ GE2.out | refine below_set ?_ GE3.out)) hb); clear h10 h11 BK1 BK2 HB; have HO := n0_; have BK2 := n2_; have HB := n3_; clear n0_ n2_ n3_ hb ho0; obtain ⟨Av, cv, ev⟩ := Kd.R_slice HO.out; subst ev) | ((with_reducible refine gate_dst (N := 7) rfl ?_); refine box_event ?hg (N := 7) ?hd (cs := #[.slice none 0 0, .int .i64 0]) (t := 27) ?hr ?_; (case hd => rfl); (case hg => rfl); (case hr => first | (go_simp; done) | (go_simp; rfl)); intro gb3 hg w3 hbox hb; have m2_ := Aside0.mk (blk_below BK2.out hb); have e2_ := Aside0.mk (by rw [hg]; exact Nat.ne_of_lt (blk_lt BK2.out) : gb2 ≠ gb3); have rHO_ := Aside0.mk (Kd.R_below HO.out hb); have n0_ := Aside0.mk (below_step (by repeat (first | exact HB.out | apply below_alloc | apply pw_below_drewN | apply below_drew1 | refine below_set ?_ GE1.out | refine below_set ?_ GE2.out | refine below_set ?_ GE3.out)) hb); have n1_ := Aside0.mk hbox; have n2_ := Aside0.mk ((by rw [hg]; exact (below_size (by repeat (first | exact HB.out | apply below_alloc | apply pw_below_drewN | apply below_drew1 | refine below_set ?_ GE1.out | refine below_set ?_ GE2.out | refine below_set ?_ GE3.out)))) : w.heap.size ≤ gb3); clear HB; have HB := n0_; have BK3 := n1_; have GE3 := n2_; clear n0_ n1_ n2_; clear BK2; have BK2 := m2_; have NE23 := e2_; clear m2_ e2_; clear HO; have HO := rHO_; clear rHO_; clear hbox hb hg; have h30 : w3.cell? ⟨gb3, 0, none⟩ = some (Value.slice none 0 0) := (blk_cell BK3.out 0).trans rfl; have h31 : w3.cell? ⟨gb3, 1, none⟩ = some (Value.int .i64 0) := (blk_cell BK3.out 1).trans rfl; have hz30 := blk_frozen BK3.out 0; have hz31 := blk_frozen BK3.out 1) | ((with_reducible refine gate_callee (f := 46) rfl ?_); have n0_ : Aside0 (((w3.setCell ⟨gb3, 0, none⟩ (.slice Av t1.length cv)).setCell ⟨gb3, 1, none⟩ (.int .i64 t2)).heap[gb3]? = some (.cells #[.slice Av t1.length cv, .int .i64 t2] 27 (0, 0))) := ⟨blk_put (cs := #[.slice Av t1.length cv, .int .i64 0]) (blk_put (cs := #[.slice none 0 0, .int .i64 0]) BK3.out 0 _ rfl) 1 _ rfl⟩; have n1_ : Aside0 (((w3.setCell ⟨gb3, 0, none⟩ (.slice Av t1.length cv)).setCell ⟨gb3, 1, none⟩ (.int .i64 t2)).heap[gb2]? = some (.cells #[.slice none 0 0, .int .i64 0] 27 (0, 0))) := ⟨blk_far (blk_far BK2.out NE23.out _) NE23.out _⟩; have n2_ : Aside0 (Kd.R (Kd.int .u8) 5 ((w3.setCell ⟨gb3, 0, none⟩ (.slice Av t1.length cv)).setCell ⟨gb3, 1, none⟩ (.int .i64 t2)) w.heap.size (fun _ => True) (.slice Av t1.length cv) t1) := ⟨Kd.R_mono (Kd.R_far (p := ⟨gb3, 1, none⟩) (Kd.R_far (p := ⟨gb3, 0, none⟩) (Kd.R_types HO.out BK3.out (by decide)) (fun _ hk => hk.2) _) (fun _ hk => hk.2) _) (fun _ _ => trivial)⟩; have n3_ : Aside0 (Below w.heap.size w ((w3.setCell ⟨gb3, 0, none⟩ (.slice Av t1.length cv)).setCell ⟨gb3, 1, none⟩ (.int .i64 t2))) := ⟨below_set (below_set HB.out GE3.out) GE3.out⟩; clear h30 h31 hz30 hz31 HB BK2 BK3 HO; generalize ((w3.setCell ⟨gb3, 0, none⟩ (.slice Av t1.length cv)).setCell ⟨gb3, 1, none⟩ (.int .i64 t2)) = w4 at n0_ n1_ n2_ n3_ ⊢; have BK3 := n0_; have BK2 := n1_; have HO := n2_; have HB := n3_; clear n0_ n1_ n2_ n3_; refine goesL_ (some 12) rfl rfl Try.func46 (by kernel_rfl) rfl #[.int .u64 a1, .int .i64 a2] rfl (by (try simp only [List.map_toArray, List.map_cons, List.map_nil]); first | done | rfl) ?_; (with_reducible refine (impl_fits.calls a1 a2 false _ A8.out).mono ?_); rintro e w6 ⟨rfl, hd⟩; refine ⟨_, rfl, ?_⟩; have hb := hd.below; have n0_ := Aside0.mk (blk_below BK3.out hb); have n1_ := Aside0.mk (blk_below BK2.out hb); have n2_ := Aside0.mk (Kd.R_below HO.out hb); have n3_ := Aside0.mk (below_step HB.out hb); clear BK3 BK2 HO HB hb hd; have BK3 := n0_; have BK2 := n1_; have HO := n2_; have HB := n3_; clear n0_ n1_ n2_ n3_; have h30 : w6.cell? ⟨gb3, 0, none⟩ = some (Value.slice Av t1.length cv) := (blk_cell BK3.out 0).trans rfl; have h31 : w6.cell? ⟨gb3, 1, none⟩ = some (Value.int .i64 t2) := (blk_cell BK3.out 1).trans rfl; have h20 : w6.cell? ⟨gb2, 0, none⟩ = some (Value.slice none 0 0) := (blk_cell BK2.out 0).trans rfl; have h21 : w6.cell? ⟨gb2, 1, none⟩ = some (Value.int .i64 0) := (blk_cell BK2.out 1).trans rfl; have hz20 := blk_frozen BK2.out 0; have hz21 := blk_frozen BK2.out 1) | (fail))
    refine bodyPost_ret (results_cell_row rfl _ _ gb2 27 #[.slice Av t1.length cv, .int .i64 t2] (0, 0) _ rfl ?hrow Try.underlying27 rfl (by kernel_rfl)) rfl ?_
    case hrow => exact blk_put (cs := #[.slice Av t1.length cv, .int .i64 0]) (blk_put (cs := #[.slice none 0 0, .int .i64 0]) BK2.out 0 _ rfl) 1 _ rfl
    exact ⟨_, rfl, Kd.R_mono (Kd.R_far (p := ⟨gb2, 1, none⟩) (Kd.R_far (p := ⟨gb2, 0, none⟩) (Kd.R_types HO.out BK2.out (by decide)) (fun _ hk => hk.2) _) (fun _ hk => hk.2) _) (fun _ _ => trivial), below_set (below_set HB.out GE2.out) GE2.out⟩
  | true =>
    have A9 := Aside0.mk (show impl_Bits_put.f k t1 t2 a1 a2 = some (r1, r2) from H)
    clear H
    go_enter Try.func13, Try.ntmps13
    go_wp2_with (first | ((with_reducible refine gate_dst (N := 3) rfl ?_); refine box_event ?hg (N := 3) ?hd (cs := #[.slice A0_0 l0_0.length c0_0, .int .i64 a0_1]) (t := 27) ?hr ?_; (case hd => rfl); (case hg => rfl); (case hr => first | (go_simp; done) | (go_simp; rfl)); intro gb1 hg w1 hbox hb; have n0_ := Aside0.mk (below_step (by repeat (first | exact HB.out | apply below_alloc | apply pw_below_drewN | apply below_drew1 | refine below_set ?_ GE1.out | refine below_set ?_ GE2.out | refine below_set ?_ GE3.out)) hb); have n1_ := Aside0.mk hbox; have n2_ := Aside0.mk ((by rw [hg]; exact (below_size (by repeat (first | exact HB.out | apply below_alloc | apply pw_below_drewN | apply below_drew1 | refine below_set ?_ GE1.out | refine below_set ?_ GE2.out | refine below_set ?_ GE3.out)))) : w.heap.size ≤ gb1); clear HB; have HB := n0_; have BK1 := n1_; have GE1 := n2_; clear n0_ n1_ n2_; clear hbox hb hg) | ((with_reducible refine gate_dst (N := 6) rfl ?_); refine box_event ?hg (N := 6) ?hd (cs := #[.slice none 0 0, .int .i64 0]) (t := 27) ?hr ?_; (case hd => rfl); (case hg => rfl); (case hr => first | (go_simp; done) | (go_simp; rfl)); intro gb2 hg w2 hbox hb; have m1_ := Aside0.mk (blk_below BK1.out hb); have e1_ := Aside0.mk (by rw [hg]; exact Nat.ne_of_lt (blk_lt BK1.out) : gb1 ≠ gb2); have n0_ := Aside0.mk (below_step (by repeat (first | exact HB.out | apply below_alloc | apply pw_below_drewN | apply below_drew1 | refine below_set ?_ GE1.out | refine below_set ?_ GE2.out | refine below_set ?_ GE3.out)) hb); have n1_ := Aside0.mk hbox; have n2_ := Aside0.mk ((by rw [hg]; exact (below_size (by repeat (first | exact HB.out | apply below_alloc | apply pw_below_drewN | apply below_drew1 | refine below_set ?_ GE1.out | refine below_set ?_ GE2.out | refine below_set ?_ GE3.out)))) : w.heap.size ≤ gb2); clear HB; have HB := n0_; have BK2 := n1_; have GE2 := n2_; clear n0_ n1_ n2_; clear BK1; have BK1 := m1_; have NE12 := e1_; clear m1_ e1_; clear hbox hb hg; have h10 : w2.cell? ⟨gb1, 0, none⟩ = some (Value.slice A0_0 l0_0.length c0_0) := (blk_cell BK1.out 0).trans rfl; have h11 : w2.cell? ⟨gb1, 1, none⟩ = some (Value.int .i64 a0_1) := (blk_cell BK1.out 1).trans rfl) | ((with_reducible refine gate_callee (f := 45) rfl ?_); refine goesL_ (some 9) rfl rfl Try.func45 (by kernel_rfl) rfl #[.agg #[.slice A0_0 l0_0.length c0_0, .int .i64 a0_1]] rfl (by (try simp only [List.map_toArray, List.map_cons, List.map_nil]); first | done | rfl | (simp only [List.length_drop, List.length_take]; rfl)) ?_; (with_reducible refine (impl_right.calls k _ _ l0_0 a0_1 t1 t2 _ ?side1 ?side2 A7.out).mono ?_); (case side1 => repeat (first | exact (Kd.C_below HR.out HB.out) | (with_reducible refine Kd.C_alloc ?_ _) | (with_reducible refine Kd.C_drewN ?_ _) | (with_reducible refine Kd.C_drew ?_))); (case side2 => exact HC.out); rintro e w5 ⟨v5, rfl, ho0, hb⟩; refine ⟨_, rfl, ?_⟩; have n0_ := Aside0.mk (Kd.R_lower ho0 (below_size (by repeat (first | exact HB.out | apply below_alloc | apply pw_below_drewN | apply below_drew1 | refine below_set ?_ GE1.out | refine below_set ?_ GE2.out | refine below_set ?_ GE3.out)))); have n2_ := Aside0.mk (blk_below BK2.out hb); have n3_ := Aside0.mk (below_step (by repeat (first | exact HB.out | apply below_alloc | apply pw_below_drewN | apply below_drew1 | refine below_set ?_ GE1.out | refine below_set ?_ GE2.out | refine below_set ?_ GE3.out)) hb); clear h10 h11 BK1 BK2 HB; have HO := n0_; have BK2 := n2_; have HB := n3_; clear n0_ n2_ n3_ hb ho0; obtain ⟨Av, cv, ev⟩ := Kd.R_slice HO.out; subst ev) | ((with_reducible refine gate_dst (N := 7) rfl ?_); refine box_event ?hg (N := 7) ?hd (cs := #[.slice none 0 0, .int .i64 0]) (t := 27) ?hr ?_; (case hd => rfl); (case hg => rfl); (case hr => first | (go_simp; done) | (go_simp; rfl)); intro gb3 hg w3 hbox hb; have m2_ := Aside0.mk (blk_below BK2.out hb); have e2_ := Aside0.mk (by rw [hg]; exact Nat.ne_of_lt (blk_lt BK2.out) : gb2 ≠ gb3); have rHO_ := Aside0.mk (Kd.R_below HO.out hb); have n0_ := Aside0.mk (below_step (by repeat (first | exact HB.out | apply below_alloc | apply pw_below_drewN | apply below_drew1 | refine below_set ?_ GE1.out | refine below_set ?_ GE2.out | refine below_set ?_ GE3.out)) hb); have n1_ := Aside0.mk hbox; have n2_ := Aside0.mk ((by rw [hg]; exact (below_size (by repeat (first | exact HB.out | apply below_alloc | apply pw_below_drewN | apply below_drew1 | refine below_set ?_ GE1.out | refine below_set ?_ GE2.out | refine below_set ?_ GE3.out)))) : w.heap.size ≤ gb3); clear HB; have HB := n0_; have BK3 := n1_; have GE3 := n2_; clear n0_ n1_ n2_; clear BK2; have BK2 := m2_; have NE23 := e2_; clear m2_ e2_; clear HO; have HO := rHO_; clear rHO_; clear hbox hb hg; have h30 : w3.cell? ⟨gb3, 0, none⟩ = some (Value.slice none 0 0) := (blk_cell BK3.out 0).trans rfl; have h31 : w3.cell? ⟨gb3, 1, none⟩ = some (Value.int .i64 0) := (blk_cell BK3.out 1).trans rfl; have hz30 := blk_frozen BK3.out 0; have hz31 := blk_frozen BK3.out 1) | ((with_reducible refine gate_callee (f := 46) rfl ?_); have n0_ : Aside0 (((w3.setCell ⟨gb3, 0, none⟩ (.slice Av t1.length cv)).setCell ⟨gb3, 1, none⟩ (.int .i64 t2)).heap[gb3]? = some (.cells #[.slice Av t1.length cv, .int .i64 t2] 27 (0, 0))) := ⟨blk_put (cs := #[.slice Av t1.length cv, .int .i64 0]) (blk_put (cs := #[.slice none 0 0, .int .i64 0]) BK3.out 0 _ rfl) 1 _ rfl⟩; have n1_ : Aside0 (((w3.setCell ⟨gb3, 0, none⟩ (.slice Av t1.length cv)).setCell ⟨gb3, 1, none⟩ (.int .i64 t2)).heap[gb2]? = some (.cells #[.slice none 0 0, .int .i64 0] 27 (0, 0))) := ⟨blk_far (blk_far BK2.out NE23.out _) NE23.out _⟩; have n2_ : Aside0 (Kd.R (Kd.int .u8) 5 ((w3.setCell ⟨gb3, 0, none⟩ (.slice Av t1.length cv)).setCell ⟨gb3, 1, none⟩ (.int .i64 t2)) w.heap.size (fun _ => True) (.slice Av t1.length cv) t1) := ⟨Kd.R_mono (Kd.R_far (p := ⟨gb3, 1, none⟩) (Kd.R_far (p := ⟨gb3, 0, none⟩) (Kd.R_types HO.out BK3.out (by decide)) (fun _ hk => hk.2) _) (fun _ hk => hk.2) _) (fun _ _ => trivial)⟩; have n3_ : Aside0 (Below w.heap.size w ((w3.setCell ⟨gb3, 0, none⟩ (.slice Av t1.length cv)).setCell ⟨gb3, 1, none⟩ (.int .i64 t2))) := ⟨below_set (below_set HB.out GE3.out) GE3.out⟩; clear h30 h31 hz30 hz31 HB BK2 BK3 HO; generalize ((w3.setCell ⟨gb3, 0, none⟩ (.slice Av t1.length cv)).setCell ⟨gb3, 1, none⟩ (.int .i64 t2)) = w4 at n0_ n1_ n2_ n3_ ⊢; have BK3 := n0_; have BK2 := n1_; have HO := n2_; have HB := n3_; clear n0_ n1_ n2_ n3_; refine goesL_ (some 12) rfl rfl Try.func46 (by kernel_rfl) rfl #[.int .u64 a1, .int .i64 a2] rfl (by (try simp only [List.map_toArray, List.map_cons, List.map_nil]); first | done | rfl) ?_; (with_reducible refine (impl_fits.calls a1 a2 true _ A8.out).mono ?_); rintro e w6 ⟨rfl, hd⟩; refine ⟨_, rfl, ?_⟩; have hb := hd.below; have n0_ := Aside0.mk (blk_below BK3.out hb); have n1_ := Aside0.mk (blk_below BK2.out hb); have n2_ := Aside0.mk (Kd.R_below HO.out hb); have n3_ := Aside0.mk (below_step HB.out hb); clear BK3 BK2 HO HB hb hd; have BK3 := n0_; have BK2 := n1_; have HO := n2_; have HB := n3_; clear n0_ n1_ n2_ n3_) | ((with_reducible refine gate_callee (f := 47) rfl ?_); refine goesL_ (some 15) rfl rfl Try.func47 (by kernel_rfl) rfl #[.pointer (some ⟨gb3, 0, none⟩), .int .u64 a1, .int .i64 a2] rfl (by (try simp only [List.map_toArray, List.map_cons, List.map_nil]); first | done | rfl) ?_; (with_reducible refine (impl_Bits_put.calls k gb3 _ t1 t2 a1 a2 r1 r2 w _ (fun k_ => k_ ≠ gb2) HB.out GE3.out BK3.out (Kd.R_mono (Kd.R_types HO.out BK2.out (by decide)) (fun _ hk => hk.2)) A9.out).mono ?_); rintro e w7 ⟨rfl, ⟨u7, hb3, ho7⟩, hB7, hk7⟩; refine ⟨_, rfl, ?_⟩; have n0_ := Aside0.mk hb3; have n1_ := Aside0.mk (blk_kept BK2.out hk7 (fun h_ => h_.elim (fun h_ => h_ rfl) NE23.out)); have n2_ := Aside0.mk ho7; have n3_ := Aside0.mk hB7; clear BK3 BK2 HO HB hb3 hk7 ho7 hB7; have BK3 := n0_; have BK2 := n1_; have HO := n2_; have HB := n3_; clear n0_ n1_ n2_ n3_; obtain ⟨Aw, cw, ew⟩ := Kd.R_slice HO.out; subst ew; have h30 : w7.cell? ⟨gb3, 0, none⟩ = some (Value.slice Aw r1.length cw) := (blk_cell BK3.out 0).trans rfl; have h31 : w7.cell? ⟨gb3, 1, none⟩ = some (Value.int .i64 r2) := (blk_cell BK3.out 1).trans rfl; have h20 : w7.cell? ⟨gb2, 0, none⟩ = some (Value.slice none 0 0) := (blk_cell BK2.out 0).trans rfl; have h21 : w7.cell? ⟨gb2, 1, none⟩ = some (Value.int .i64 0) := (blk_cell BK2.out 1).trans rfl; have hz20 := blk_frozen BK2.out 0; have hz21 := blk_frozen BK2.out 1) | (fail))
    refine bodyPost_ret (results_cell_row rfl _ _ gb2 27 #[.slice Aw r1.length cw, .int .i64 r2] (0, 0) _ rfl ?hrow Try.underlying27 rfl (by kernel_rfl)) rfl ?_
    case hrow => exact blk_put (cs := #[.slice Aw r1.length cw, .int .i64 0]) (blk_put (cs := #[.slice none 0 0, .int .i64 0]) BK2.out 0 _ rfl) 1 _ rfl
    exact ⟨_, rfl, Kd.R_mono (Kd.R_far (p := ⟨gb2, 1, none⟩) (Kd.R_far (p := ⟨gb2, 0, none⟩) (Kd.R_types HO.out BK2.out (by decide)) (fun _ hk => hk.2) _) (fun _ hk => hk.2) _) (fun _ _ => trivial), below_set (below_set HB.out GE2.out) GE2.out⟩

end Go.Proofs.Ytcjdgimiobhhnaa.QFnExactPutBits
