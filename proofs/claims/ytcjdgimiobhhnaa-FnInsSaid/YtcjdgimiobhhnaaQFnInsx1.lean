-- written by mp.py, a program of this session, over the translation; Lean checks it
import Derived.Test.YtcjdgimiobhhnaaQFnInsx0
namespace Go.Proofs.Ytcjdgimiobhhnaa.QFnIns
open Go.RowKit Go.Proofs.YtcjdgimiobhhnaaW.PrintWords Go.Proofs.YtcjdgimiobhhnaaW.PrintLast Go.Proofs.YtcjdgimiobhhnaaW.PrintMore
attribute [local go_sem] max2_int min2_int max_two min_two max_three min_three max_four min_four   -- for this text's walks alone
set_option linter.unusedVariables false
set_option linter.unusedSimpArgs false

/-! ### impl_uses: function 58 -/
mutual
def impl_uses.j1 : Nat → Int → Option (ByteArray)
 | 0, _ => none
 | k + 1, x0 => if x0 = 14 then (some (⟨#[114, 114, 114, 112]⟩ : ByteArray)) else (if x0 = 46 then (some (⟨#[114, 114, 112, 105]⟩ : ByteArray)) else (if x0 = 15 then (some (⟨#[114, 114, 114, 114]⟩ : ByteArray)) else (if x0 = 16 then (impl_uses.j2 k x0 (x0 == 16)) else (impl_uses.j2 k x0 (x0 == 17)))))
def impl_uses.j2 : Nat → Int → Bool → Option (ByteArray)
 | 0, _, _ => none
 | k + 1, x17, x24 => if x24 = true then (some (⟨#[114, 114, 45, 119]⟩ : ByteArray)) else (if x17 = 18 then (impl_uses.j3 k x17 (x17 == 18)) else (impl_uses.j3 k x17 (x17 == 30)))
def impl_uses.j3 : Nat → Int → Bool → Option (ByteArray)
 | 0, _, _ => none
 | k + 1, x17, x27 => if x27 = true then (some (⟨#[114, 45, 45, 105]⟩ : ByteArray)) else (if x17 = 19 then (some (⟨#[114, 114, 45, 105]⟩ : ByteArray)) else (if x17 = 20 then (impl_uses.j4 k x17 (x17 == 20)) else (impl_uses.j4 k x17 (x17 == 21))))
def impl_uses.j4 : Nat → Int → Bool → Option (ByteArray)
 | 0, _, _ => none
 | k + 1, x17, x32 => if x32 = true then (some (⟨#[114, 114, 110, 105]⟩ : ByteArray)) else (if x17 = 22 then (some (⟨#[114, 114, 45, 45]⟩ : ByteArray)) else (if x17 = 23 then (impl_uses.j5 k x17 (x17 == 23)) else (impl_uses.j5 k x17 (x17 == 26))))
def impl_uses.j5 : Nat → Int → Bool → Option (ByteArray)
 | 0, _, _ => none
 | k + 1, x17, x37 => if x37 = true then (some (⟨#[45, 45, 45, 105]⟩ : ByteArray)) else (if x17 = 24 then (impl_uses.j6 k x17 (x17 == 24)) else (impl_uses.j6 k x17 (x17 == 25)))
def impl_uses.j6 : Nat → Int → Bool → Option (ByteArray)
 | 0, _, _ => none
 | k + 1, x17, x40 => if x40 = true then (some (⟨#[114, 45, 45, 105]⟩ : ByteArray)) else (if x17 = 27 then (impl_uses.j7 k x17 (x17 == 27)) else (impl_uses.j7 k x17 (x17 == 29)))
def impl_uses.j7 : Nat → Int → Bool → Option (ByteArray)
 | 0, _, _ => none
 | k + 1, x17, x43 => if x43 = true then (some (⟨#[45, 45, 45, 45]⟩ : ByteArray)) else (if x17 = 28 then (some (⟨#[114, 45, 45, 45]⟩ : ByteArray)) else (some (⟨#[]⟩ : ByteArray)))
def impl_uses.j0 : Nat → Int → Bool → Option (ByteArray)
 | 0, _, _ => none
 | k + 1, x0, x3 => if x3 = true then (some (⟨#[114, 114, 114, 45]⟩ : ByteArray)) else (if x0 ≥ 33 then (if x0 ≤ 45 then (some (⟨#[114, 114, 45, 105]⟩ : ByteArray)) else (impl_uses.j1 k x0)) else (impl_uses.j1 k x0))
end
def impl_uses.f (k : Nat) (a0 : Int) : Option (ByteArray) := if a0 ≥ 1 then (impl_uses.j0 k a0 (decide (a0 ≤ 13))) else (impl_uses.j0 k a0 false)
theorem impl_uses.mono_l : ∀ k, (∀ y0, LeO (impl_uses.j1 k y0) (impl_uses.j1 (k + 1) y0)) ∧ (∀ y0 y1, LeO (impl_uses.j2 k y0 y1) (impl_uses.j2 (k + 1) y0 y1)) ∧ (∀ y0 y1, LeO (impl_uses.j3 k y0 y1) (impl_uses.j3 (k + 1) y0 y1)) ∧ (∀ y0 y1, LeO (impl_uses.j4 k y0 y1) (impl_uses.j4 (k + 1) y0 y1)) ∧ (∀ y0 y1, LeO (impl_uses.j5 k y0 y1) (impl_uses.j5 (k + 1) y0 y1)) ∧ (∀ y0 y1, LeO (impl_uses.j6 k y0 y1) (impl_uses.j6 (k + 1) y0 y1)) ∧ (∀ y0 y1, LeO (impl_uses.j7 k y0 y1) (impl_uses.j7 (k + 1) y0 y1)) ∧ (∀ y0 y1, LeO (impl_uses.j0 k y0 y1) (impl_uses.j0 (k + 1) y0 y1))
 | 0 => ⟨fun _ r h => by simp [impl_uses.j1] at h, fun _ _ r h => by simp [impl_uses.j2] at h, fun _ _ r h => by simp [impl_uses.j3] at h, fun _ _ r h => by simp [impl_uses.j4] at h, fun _ _ r h => by simp [impl_uses.j5] at h, fun _ _ r h => by simp [impl_uses.j6] at h, fun _ _ r h => by simp [impl_uses.j7] at h, fun _ _ r h => by simp [impl_uses.j0] at h⟩
 | k + 1 => by
  obtain ⟨ih0, ih1, ih2, ih3, ih4, ih5, ih6, ih7⟩ := impl_uses.mono_l k
  refine ⟨?_, ?_, ?_, ?_, ?_, ?_, ?_, ?_⟩
  ·intro y0
   unfold impl_uses.j1
   repeat' first
   | (with_reducible exact ih0 _)
   | (with_reducible exact ih1 _ _)
   | (with_reducible exact ih2 _ _)
   | (with_reducible exact ih3 _ _)
   | (with_reducible exact ih4 _ _)
   | (with_reducible exact ih5 _ _)
   | (with_reducible exact ih6 _ _)
   | (with_reducible exact ih7 _ _)
   | (with_reducible exact LeO.refl _)
   | (with_reducible exact LeO.none _)
   | (with_reducible refine LeO.ite ?_ ?_)
   | (with_reducible refine LeO.bind ?_ (fun _ => ?_))
   | exact ih0 _
   | exact ih1 _ _
   | exact ih2 _ _
   | exact ih3 _ _
   | exact ih4 _ _
   | exact ih5 _ _
   | exact ih6 _ _
   | exact ih7 _ _
   | exact LeO.none _
   | refine LeO.ite ?_ ?_
   | refine LeO.bind ?_ (fun _ => ?_)
  ·intro y0 y1
   unfold impl_uses.j2
   repeat' first
   | (with_reducible exact ih0 _)
   | (with_reducible exact ih1 _ _)
   | (with_reducible exact ih2 _ _)
   | (with_reducible exact ih3 _ _)
   | (with_reducible exact ih4 _ _)
   | (with_reducible exact ih5 _ _)
   | (with_reducible exact ih6 _ _)
   | (with_reducible exact ih7 _ _)
   | (with_reducible exact LeO.refl _)
   | (with_reducible exact LeO.none _)
   | (with_reducible refine LeO.ite ?_ ?_)
   | (with_reducible refine LeO.bind ?_ (fun _ => ?_))
   | exact ih0 _
   | exact ih1 _ _
   | exact ih2 _ _
   | exact ih3 _ _
   | exact ih4 _ _
   | exact ih5 _ _
   | exact ih6 _ _
   | exact ih7 _ _
   | exact LeO.none _
   | refine LeO.ite ?_ ?_
   | refine LeO.bind ?_ (fun _ => ?_)
  ·intro y0 y1
   unfold impl_uses.j3
   repeat' first
   | (with_reducible exact ih0 _)
   | (with_reducible exact ih1 _ _)
   | (with_reducible exact ih2 _ _)
   | (with_reducible exact ih3 _ _)
   | (with_reducible exact ih4 _ _)
   | (with_reducible exact ih5 _ _)
   | (with_reducible exact ih6 _ _)
   | (with_reducible exact ih7 _ _)
   | (with_reducible exact LeO.refl _)
   | (with_reducible exact LeO.none _)
   | (with_reducible refine LeO.ite ?_ ?_)
   | (with_reducible refine LeO.bind ?_ (fun _ => ?_))
   | exact ih0 _
   | exact ih1 _ _
   | exact ih2 _ _
   | exact ih3 _ _
   | exact ih4 _ _
   | exact ih5 _ _
   | exact ih6 _ _
   | exact ih7 _ _
   | exact LeO.none _
   | refine LeO.ite ?_ ?_
   | refine LeO.bind ?_ (fun _ => ?_)
  ·intro y0 y1
   unfold impl_uses.j4
   repeat' first
   | (with_reducible exact ih0 _)
   | (with_reducible exact ih1 _ _)
   | (with_reducible exact ih2 _ _)
   | (with_reducible exact ih3 _ _)
   | (with_reducible exact ih4 _ _)
   | (with_reducible exact ih5 _ _)
   | (with_reducible exact ih6 _ _)
   | (with_reducible exact ih7 _ _)
   | (with_reducible exact LeO.refl _)
   | (with_reducible exact LeO.none _)
   | (with_reducible refine LeO.ite ?_ ?_)
   | (with_reducible refine LeO.bind ?_ (fun _ => ?_))
   | exact ih0 _
   | exact ih1 _ _
   | exact ih2 _ _
   | exact ih3 _ _
   | exact ih4 _ _
   | exact ih5 _ _
   | exact ih6 _ _
   | exact ih7 _ _
   | exact LeO.none _
   | refine LeO.ite ?_ ?_
   | refine LeO.bind ?_ (fun _ => ?_)
  ·intro y0 y1
   unfold impl_uses.j5
   repeat' first
   | (with_reducible exact ih0 _)
   | (with_reducible exact ih1 _ _)
   | (with_reducible exact ih2 _ _)
   | (with_reducible exact ih3 _ _)
   | (with_reducible exact ih4 _ _)
   | (with_reducible exact ih5 _ _)
   | (with_reducible exact ih6 _ _)
   | (with_reducible exact ih7 _ _)
   | (with_reducible exact LeO.refl _)
   | (with_reducible exact LeO.none _)
   | (with_reducible refine LeO.ite ?_ ?_)
   | (with_reducible refine LeO.bind ?_ (fun _ => ?_))
   | exact ih0 _
   | exact ih1 _ _
   | exact ih2 _ _
   | exact ih3 _ _
   | exact ih4 _ _
   | exact ih5 _ _
   | exact ih6 _ _
   | exact ih7 _ _
   | exact LeO.none _
   | refine LeO.ite ?_ ?_
   | refine LeO.bind ?_ (fun _ => ?_)
  ·intro y0 y1
   unfold impl_uses.j6
   repeat' first
   | (with_reducible exact ih0 _)
   | (with_reducible exact ih1 _ _)
   | (with_reducible exact ih2 _ _)
   | (with_reducible exact ih3 _ _)
   | (with_reducible exact ih4 _ _)
   | (with_reducible exact ih5 _ _)
   | (with_reducible exact ih6 _ _)
   | (with_reducible exact ih7 _ _)
   | (with_reducible exact LeO.refl _)
   | (with_reducible exact LeO.none _)
   | (with_reducible refine LeO.ite ?_ ?_)
   | (with_reducible refine LeO.bind ?_ (fun _ => ?_))
   | exact ih0 _
   | exact ih1 _ _
   | exact ih2 _ _
   | exact ih3 _ _
   | exact ih4 _ _
   | exact ih5 _ _
   | exact ih6 _ _
   | exact ih7 _ _
   | exact LeO.none _
   | refine LeO.ite ?_ ?_
   | refine LeO.bind ?_ (fun _ => ?_)
  ·intro y0 y1
   unfold impl_uses.j7
   repeat' first
   | (with_reducible exact ih0 _)
   | (with_reducible exact ih1 _ _)
   | (with_reducible exact ih2 _ _)
   | (with_reducible exact ih3 _ _)
   | (with_reducible exact ih4 _ _)
   | (with_reducible exact ih5 _ _)
   | (with_reducible exact ih6 _ _)
   | (with_reducible exact ih7 _ _)
   | (with_reducible exact LeO.refl _)
   | (with_reducible exact LeO.none _)
   | (with_reducible refine LeO.ite ?_ ?_)
   | (with_reducible refine LeO.bind ?_ (fun _ => ?_))
   | exact ih0 _
   | exact ih1 _ _
   | exact ih2 _ _
   | exact ih3 _ _
   | exact ih4 _ _
   | exact ih5 _ _
   | exact ih6 _ _
   | exact ih7 _ _
   | exact LeO.none _
   | refine LeO.ite ?_ ?_
   | refine LeO.bind ?_ (fun _ => ?_)
  ·intro y0 y1
   unfold impl_uses.j0
   repeat' first
   | (with_reducible exact ih0 _)
   | (with_reducible exact ih1 _ _)
   | (with_reducible exact ih2 _ _)
   | (with_reducible exact ih3 _ _)
   | (with_reducible exact ih4 _ _)
   | (with_reducible exact ih5 _ _)
   | (with_reducible exact ih6 _ _)
   | (with_reducible exact ih7 _ _)
   | (with_reducible exact LeO.refl _)
   | (with_reducible exact LeO.none _)
   | (with_reducible refine LeO.ite ?_ ?_)
   | (with_reducible refine LeO.bind ?_ (fun _ => ?_))
   | exact ih0 _
   | exact ih1 _ _
   | exact ih2 _ _
   | exact ih3 _ _
   | exact ih4 _ _
   | exact ih5 _ _
   | exact ih6 _ _
   | exact ih7 _ _
   | exact LeO.none _
   | refine LeO.ite ?_ ?_
   | refine LeO.bind ?_ (fun _ => ?_)
theorem impl_uses.mono : ∀ a0 k, LeO (impl_uses.f k a0) (impl_uses.f (k + 1) a0) := by
 intro a0 k
 obtain ⟨ih0, ih1, ih2, ih3, ih4, ih5, ih6, ih7⟩ := impl_uses.mono_l k
 unfold impl_uses.f
 repeat' first
   | (with_reducible exact ih0 _)
   | (with_reducible exact ih1 _ _)
   | (with_reducible exact ih2 _ _)
   | (with_reducible exact ih3 _ _)
   | (with_reducible exact ih4 _ _)
   | (with_reducible exact ih5 _ _)
   | (with_reducible exact ih6 _ _)
   | (with_reducible exact ih7 _ _)
   | (with_reducible exact LeO.refl _)
   | (with_reducible exact LeO.none _)
   | (with_reducible refine LeO.ite ?_ ?_)
   | (with_reducible refine LeO.bind ?_ (fun _ => ?_))
   | exact ih0 _
   | exact ih1 _ _
   | exact ih2 _ _
   | exact ih3 _ _
   | exact ih4 _ _
   | exact ih5 _ _
   | exact ih6 _ _
   | exact ih7 _ _
   | exact LeO.none _
   | refine LeO.ite ?_ ?_
   | refine LeO.bind ?_ (fun _ => ?_)
set_option maxHeartbeats 8000000 in
set_option maxRecDepth 100000 in
theorem impl_uses.calls (k : Nat) (a0 : Int) (r : ByteArray) (w : World) (h : impl_uses.f k a0 = some r) :
    Calls Try.prog 58 #[.int .i64 a0] w fun e w' => e = .returned (.string r) ∧ Drawn0 w w' := by
 have H : (if a0 ≥ 1 then (impl_uses.j0 k a0 (decide (a0 ≤ 13))) else (impl_uses.j0 k a0 false)) = some r := h
 clear h
 have HC2 := Aside0.mk H
 clear H
 go_enter Try.func58, Try.ntmps58
 go_upto_block 0 with (fail)
 go_cut [] (fun wc => ∃ (kq : Nat), Aside0 (impl_uses.j1 kq a0 = some r) ∧ Aside0 (kq ≤ k) ∧ Drawn0 w wc)
 case first =>
  have H := HC2.out
  clear HC2
  have HC3 := Aside0.mk H
  clear H
  go_upto_region 1 with (fail)
  go_cut [3] (fun v3 wc => ∃ (kq : Nat) (x3_2 : Bool), v3 = .bool x3_2 ∧ Aside0 (impl_uses.j0 kq a0 x3_2 = some r) ∧ Aside0 (kq ≤ k) ∧ Drawn0 w wc)
  case first =>
   have H := HC3.out
   clear HC3
   by_cases c4 : a0 ≥ 1
   ·rw [if_pos c4] at H
    have c4b0 : decide (1 ≤ a0) = true := decide_eq_true c4
    clear c4
    (first | rw [c4b0] | (simp only [i64_w, i32_w]; rw [c4b0]) | skip)
    have H' := Aside0.mk H
    clear H
    go_wp2
    go_meet
    case rel => exact ⟨_, (decide (a0 ≤ 13)), (by first | rfl | (simp; done) | (simp [*]; done)), H', ⟨by first | omega | exact Nat.le_refl _⟩, by repeat (first | exact Drawn0.refl _ | apply Drawn0.step)⟩
   ·rw [if_neg c4] at H
    have c4b0 : decide (1 ≤ a0) = false := decide_eq_false c4
    clear c4
    (first | rw [c4b0] | (simp only [i64_w, i32_w]; rw [c4b0]) | skip)
    have H' := Aside0.mk H
    clear H
    go_wp2
    go_meet
    case rel => exact ⟨_, (false), (by first | rfl | (simp; done) | (simp [*]; done)), H', ⟨by first | omega | exact Nat.le_refl _⟩, by repeat (first | exact Drawn0.refl _ | apply Drawn0.step)⟩
  case rest =>
   clear HC3
   try clear p2
   try clear c4
   try clear c4b0
   obtain ⟨kq, x3_2, rfl, HA, HJ2, ⟨mc2, rfl⟩⟩ := hcut
   cases kq with
   | zero => exact absurd HA.out (by simp [impl_uses.j0])
   | succ kj2 =>
    have H := HA.out
    clear HA
    simp only [impl_uses.j0] at H
    by_cases c5 : x3_2 = true
    ·subst c5
     rw [if_pos rfl] at H
     obtain rfl := Option.some.inj H
     go_wp2
     go_ret
     exact ⟨by first | rfl | (simp; done) | (simp [*]; done), by repeat (first | exact Drawn0.refl _ | apply Drawn0.step)⟩
    ·replace c5 := Bool.eq_false_iff.mpr c5
     subst c5
     rw [if_neg (show ¬ (false = true) by decide)] at H
     by_cases c6 : a0 ≥ 33
     ·rw [if_pos c6] at H
      have c6b0 : decide (33 ≤ a0) = true := decide_eq_true c6
      clear c6
      by_cases c7 : a0 ≤ 45
      ·rw [if_pos c7] at H
       have c7b0 : decide (a0 ≤ 45) = true := decide_eq_true c7
       clear c7
       obtain rfl := Option.some.inj H
       go_wp2
       go_ret
       exact ⟨by first | rfl | (simp; done) | (simp [*]; done), by repeat (first | exact Drawn0.refl _ | apply Drawn0.step)⟩
      ·rw [if_neg c7] at H
       have c7b0 : decide (a0 ≤ 45) = false := decide_eq_false c7
       clear c7
       have H' := Aside0.mk H
       clear H
       go_wp2
       go_meet
       case rel => exact ⟨_, H', ⟨by have := HJ2.out; first | omega | exact Nat.le_refl _⟩, by repeat (first | exact Drawn0.refl _ | apply Drawn0.step)⟩
     ·rw [if_neg c6] at H
      have c6b0 : decide (33 ≤ a0) = false := decide_eq_false c6
      clear c6
      have H' := Aside0.mk H
      clear H
      go_wp2
      go_meet
      case rel => exact ⟨_, H', ⟨by have := HJ2.out; first | omega | exact Nat.le_refl _⟩, by repeat (first | exact Drawn0.refl _ | apply Drawn0.step)⟩
 case rest =>
  clear HC2
  try clear c2
  try clear p2
  try clear c4
  try clear c4b0
  try clear c5
  try clear c6
  try clear c6b0
  try clear c7
  try clear c7b0
  try clear p2
  obtain ⟨kq, HA, HJ1, ⟨mc1, rfl⟩⟩ := hcut
  cases kq with
  | zero => exact absurd HA.out (by simp [impl_uses.j1])
  | succ kj1 =>
   have H := HA.out
   clear HA
   simp only [impl_uses.j1] at H
   by_cases c8 : a0 = 14
   ·rw [if_pos c8] at H
    have c8b0 : (a0 == 14) = true := beq_iff_eq.mpr c8
    have c8b1 : (a0 != 14) = false := bne_eq_false_iff_eq.mpr c8
    clear c8
    obtain rfl := Option.some.inj H
    go_wp2
    go_ret
    exact ⟨by first | rfl | (simp; done) | (simp [*]; done), by repeat (first | exact Drawn0.refl _ | apply Drawn0.step)⟩
   ·rw [if_neg c8] at H
    have c8b0 : (a0 == 14) = false := beq_eq_false_iff_ne.mpr c8
    have c8b1 : (a0 != 14) = true := bne_iff_ne.mpr c8
    by_cases c9 : a0 = 46
    ·rw [if_pos c9] at H
     have c9b0 : (a0 == 46) = true := beq_iff_eq.mpr c9
     have c9b1 : (a0 != 46) = false := bne_eq_false_iff_eq.mpr c9
     clear c9
     obtain rfl := Option.some.inj H
     go_wp2
     go_ret
     exact ⟨by first | rfl | (simp; done) | (simp [*]; done), by repeat (first | exact Drawn0.refl _ | apply Drawn0.step)⟩
    ·rw [if_neg c9] at H
     have c9b0 : (a0 == 46) = false := beq_eq_false_iff_ne.mpr c9
     have c9b1 : (a0 != 46) = true := bne_iff_ne.mpr c9
     by_cases c10 : a0 = 15
     ·rw [if_pos c10] at H
      have c10b0 : (a0 == 15) = true := beq_iff_eq.mpr c10
      have c10b1 : (a0 != 15) = false := bne_eq_false_iff_eq.mpr c10
      clear c10
      obtain rfl := Option.some.inj H
      go_wp2
      go_ret
      exact ⟨by first | rfl | (simp; done) | (simp [*]; done), by repeat (first | exact Drawn0.refl _ | apply Drawn0.step)⟩
     ·rw [if_neg c10] at H
      have c10b0 : (a0 == 15) = false := beq_eq_false_iff_ne.mpr c10
      have c10b1 : (a0 != 15) = true := bne_iff_ne.mpr c10
      have HC11 := Aside0.mk H
      clear H
      go_upto_if 24 with (fail)
      go_cut [24] (fun v24 wc => ∃ (kq : Nat) (x24_10 : Bool), v24 = .bool x24_10 ∧ Aside0 (impl_uses.j2 kq a0 x24_10 = some r) ∧ Aside0 (kq ≤ kj1) ∧ Drawn0 w wc)
      case first =>
       have H := HC11.out
       clear HC11
       by_cases c12 : a0 = 16
       ·rw [if_pos c12] at H
        have c12b0 : (a0 == 16) = true := beq_iff_eq.mpr c12
        have c12b1 : (a0 != 16) = false := bne_eq_false_iff_eq.mpr c12
        clear c12
        (first | rw [c12b0] | (simp only [i64_w, i32_w]; rw [c12b0]) | skip)
        have H' := Aside0.mk H
        clear H
        go_wp2
        go_meet
        case rel => exact ⟨_, ((a0 == 16)), (by first | rfl | (simp; done) | (simp [*]; done)), H', ⟨by have := HJ1.out; first | omega | exact Nat.le_refl _⟩, by repeat (first | exact Drawn0.refl _ | apply Drawn0.step)⟩
       ·rw [if_neg c12] at H
        have c12b0 : (a0 == 16) = false := beq_eq_false_iff_ne.mpr c12
        have c12b1 : (a0 != 16) = true := bne_iff_ne.mpr c12
        (first | rw [c12b0] | (simp only [i64_w, i32_w]; rw [c12b0]) | skip)
        have H' := Aside0.mk H
        clear H
        go_wp2
        go_meet
        case rel => exact ⟨_, ((a0 == 17)), (by first | rfl | (simp; done) | (simp [*]; done)), H', ⟨by have := HJ1.out; first | omega | exact Nat.le_refl _⟩, by repeat (first | exact Drawn0.refl _ | apply Drawn0.step)⟩
      case rest =>
       clear HC11
       try clear c1
       try clear c2
       try clear p2
       try clear c4
       try clear c4b0
       try clear c5
       try clear c6
       try clear c6b0
       try clear c7
       try clear c7b0
       try clear c8
       try clear c8b0
       try clear c8b1
       try clear c9
       try clear c9b0
       try clear c9b1
       try clear c10
       try clear c10b0
       try clear c10b1
       try clear c12
       try clear c12b0
       try clear c12b1
       try clear p2
       obtain ⟨kq, x24_10, rfl, HA, HJ10, ⟨mc10, rfl⟩⟩ := hcut
       cases kq with
       | zero => exact absurd HA.out (by simp [impl_uses.j2])
       | succ kj10 =>
        have H := HA.out
        clear HA
        simp only [impl_uses.j2] at H
        by_cases c13 : x24_10 = true
        ·subst c13
         rw [if_pos rfl] at H
         obtain rfl := Option.some.inj H
         go_wp2
         go_ret
         exact ⟨by first | rfl | (simp; done) | (simp [*]; done), by repeat (first | exact Drawn0.refl _ | apply Drawn0.step)⟩
        ·replace c13 := Bool.eq_false_iff.mpr c13
         subst c13
         rw [if_neg (show ¬ (false = true) by decide)] at H
         have HC14 := Aside0.mk H
         clear H
         go_upto_if 27 with (fail)
         go_cut [27] (fun v27 wc => ∃ (kq : Nat) (x27_13 : Bool), v27 = .bool x27_13 ∧ Aside0 (impl_uses.j3 kq a0 x27_13 = some r) ∧ Aside0 (kq ≤ kj10) ∧ Drawn0 w wc)
         case first =>
          have H := HC14.out
          clear HC14
          by_cases c15 : a0 = 18
          ·rw [if_pos c15] at H
           have c15b0 : (a0 == 18) = true := beq_iff_eq.mpr c15
           have c15b1 : (a0 != 18) = false := bne_eq_false_iff_eq.mpr c15
           clear c15
           (first | rw [c15b0] | (simp only [i64_w, i32_w]; rw [c15b0]) | skip)
           have H' := Aside0.mk H
           clear H
           go_wp2
           go_meet
           case rel => exact ⟨_, ((a0 == 18)), (by first | rfl | (simp; done) | (simp [*]; done)), H', ⟨by have := HJ1.out; have := HJ10.out; first | omega | exact Nat.le_refl _⟩, by repeat (first | exact Drawn0.refl _ | apply Drawn0.step)⟩
          ·rw [if_neg c15] at H
           have c15b0 : (a0 == 18) = false := beq_eq_false_iff_ne.mpr c15
           have c15b1 : (a0 != 18) = true := bne_iff_ne.mpr c15
           (first | rw [c15b0] | (simp only [i64_w, i32_w]; rw [c15b0]) | skip)
           have H' := Aside0.mk H
           clear H
           go_wp2
           go_meet
           case rel => exact ⟨_, ((a0 == 30)), (by first | rfl | (simp; done) | (simp [*]; done)), H', ⟨by have := HJ1.out; have := HJ10.out; first | omega | exact Nat.le_refl _⟩, by repeat (first | exact Drawn0.refl _ | apply Drawn0.step)⟩
         case rest =>
          clear HC14
          try clear c1
          try clear c2
          try clear p2
          try clear c4
          try clear c4b0
          try clear c5
          try clear c6
          try clear c6b0
          try clear c7
          try clear c7b0
          try clear c8
          try clear c8b0
          try clear c8b1
          try clear c9
          try clear c9b0
          try clear c9b1
          try clear c10
          try clear c10b0
          try clear c10b1
          try clear c12
          try clear c12b0
          try clear c12b1
          try clear c13
          try clear c15
          try clear c15b0
          try clear c15b1
          try clear p2
          obtain ⟨kq, x27_13, rfl, HA, HJ13, ⟨mc13, rfl⟩⟩ := hcut
          cases kq with
          | zero => exact absurd HA.out (by simp [impl_uses.j3])
          | succ kj13 =>
           have H := HA.out
           clear HA
           simp only [impl_uses.j3] at H
           by_cases c16 : x27_13 = true
           ·subst c16
            rw [if_pos rfl] at H
            obtain rfl := Option.some.inj H
            go_wp2
            go_ret
            exact ⟨by first | rfl | (simp; done) | (simp [*]; done), by repeat (first | exact Drawn0.refl _ | apply Drawn0.step)⟩
           ·replace c16 := Bool.eq_false_iff.mpr c16
            subst c16
            rw [if_neg (show ¬ (false = true) by decide)] at H
            by_cases c17 : a0 = 19
            ·rw [if_pos c17] at H
             have c17b0 : (a0 == 19) = true := beq_iff_eq.mpr c17
             have c17b1 : (a0 != 19) = false := bne_eq_false_iff_eq.mpr c17
             clear c17
             obtain rfl := Option.some.inj H
             go_wp2
             go_ret
             exact ⟨by first | rfl | (simp; done) | (simp [*]; done), by repeat (first | exact Drawn0.refl _ | apply Drawn0.step)⟩
            ·rw [if_neg c17] at H
             have c17b0 : (a0 == 19) = false := beq_eq_false_iff_ne.mpr c17
             have c17b1 : (a0 != 19) = true := bne_iff_ne.mpr c17
             have HC18 := Aside0.mk H
             clear H
             go_upto_if 32 with (fail)
             go_cut [32] (fun v32 wc => ∃ (kq : Nat) (x32_17 : Bool), v32 = .bool x32_17 ∧ Aside0 (impl_uses.j4 kq a0 x32_17 = some r) ∧ Aside0 (kq ≤ kj13) ∧ Drawn0 w wc)
             case first =>
              have H := HC18.out
              clear HC18
              by_cases c19 : a0 = 20
              ·rw [if_pos c19] at H
               have c19b0 : (a0 == 20) = true := beq_iff_eq.mpr c19
               have c19b1 : (a0 != 20) = false := bne_eq_false_iff_eq.mpr c19
               clear c19
               (first | rw [c19b0] | (simp only [i64_w, i32_w]; rw [c19b0]) | skip)
               have H' := Aside0.mk H
               clear H
               go_wp2
               go_meet
               case rel => exact ⟨_, ((a0 == 20)), (by first | rfl | (simp; done) | (simp [*]; done)), H', ⟨by have := HJ1.out; have := HJ10.out; have := HJ13.out; first | omega | exact Nat.le_refl _⟩, by repeat (first | exact Drawn0.refl _ | apply Drawn0.step)⟩
              ·rw [if_neg c19] at H
               have c19b0 : (a0 == 20) = false := beq_eq_false_iff_ne.mpr c19
               have c19b1 : (a0 != 20) = true := bne_iff_ne.mpr c19
               (first | rw [c19b0] | (simp only [i64_w, i32_w]; rw [c19b0]) | skip)
               have H' := Aside0.mk H
               clear H
               go_wp2
               go_meet
               case rel => exact ⟨_, ((a0 == 21)), (by first | rfl | (simp; done) | (simp [*]; done)), H', ⟨by have := HJ1.out; have := HJ10.out; have := HJ13.out; first | omega | exact Nat.le_refl _⟩, by repeat (first | exact Drawn0.refl _ | apply Drawn0.step)⟩
             case rest =>
              clear HC18
              try clear c1
              try clear c2
              try clear p2
              try clear c4
              try clear c4b0
              try clear c5
              try clear c6
              try clear c6b0
              try clear c7
              try clear c7b0
              try clear c8
              try clear c8b0
              try clear c8b1
              try clear c9
              try clear c9b0
              try clear c9b1
              try clear c10
              try clear c10b0
              try clear c10b1
              try clear c12
              try clear c12b0
              try clear c12b1
              try clear c13
              try clear c15
              try clear c15b0
              try clear c15b1
              try clear c16
              try clear c17
              try clear c17b0
              try clear c17b1
              try clear c19
              try clear c19b0
              try clear c19b1
              try clear p2
              obtain ⟨kq, x32_17, rfl, HA, HJ17, ⟨mc17, rfl⟩⟩ := hcut
              cases kq with
              | zero => exact absurd HA.out (by simp [impl_uses.j4])
              | succ kj17 =>
               have H := HA.out
               clear HA
               simp only [impl_uses.j4] at H
               by_cases c20 : x32_17 = true
               ·subst c20
                rw [if_pos rfl] at H
                obtain rfl := Option.some.inj H
                go_wp2
                go_ret
                exact ⟨by first | rfl | (simp; done) | (simp [*]; done), by repeat (first | exact Drawn0.refl _ | apply Drawn0.step)⟩
               ·replace c20 := Bool.eq_false_iff.mpr c20
                subst c20
                rw [if_neg (show ¬ (false = true) by decide)] at H
                by_cases c21 : a0 = 22
                ·rw [if_pos c21] at H
                 have c21b0 : (a0 == 22) = true := beq_iff_eq.mpr c21
                 have c21b1 : (a0 != 22) = false := bne_eq_false_iff_eq.mpr c21
                 clear c21
                 obtain rfl := Option.some.inj H
                 go_wp2
                 go_ret
                 exact ⟨by first | rfl | (simp; done) | (simp [*]; done), by repeat (first | exact Drawn0.refl _ | apply Drawn0.step)⟩
                ·rw [if_neg c21] at H
                 have c21b0 : (a0 == 22) = false := beq_eq_false_iff_ne.mpr c21
                 have c21b1 : (a0 != 22) = true := bne_iff_ne.mpr c21
                 have HC22 := Aside0.mk H
                 clear H
                 go_upto_if 37 with (fail)
                 go_cut [37] (fun v37 wc => ∃ (kq : Nat) (x37_21 : Bool), v37 = .bool x37_21 ∧ Aside0 (impl_uses.j5 kq a0 x37_21 = some r) ∧ Aside0 (kq ≤ kj17) ∧ Drawn0 w wc)
                 case first =>
                  have H := HC22.out
                  clear HC22
                  by_cases c23 : a0 = 23
                  ·rw [if_pos c23] at H
                   have c23b0 : (a0 == 23) = true := beq_iff_eq.mpr c23
                   have c23b1 : (a0 != 23) = false := bne_eq_false_iff_eq.mpr c23
                   clear c23
                   (first | rw [c23b0] | (simp only [i64_w, i32_w]; rw [c23b0]) | skip)
                   have H' := Aside0.mk H
                   clear H
                   go_wp2
                   go_meet
                   case rel => exact ⟨_, ((a0 == 23)), (by first | rfl | (simp; done) | (simp [*]; done)), H', ⟨by have := HJ1.out; have := HJ10.out; have := HJ13.out; have := HJ17.out; first | omega | exact Nat.le_refl _⟩, by repeat (first | exact Drawn0.refl _ | apply Drawn0.step)⟩
                  ·rw [if_neg c23] at H
                   have c23b0 : (a0 == 23) = false := beq_eq_false_iff_ne.mpr c23
                   have c23b1 : (a0 != 23) = true := bne_iff_ne.mpr c23
                   (first | rw [c23b0] | (simp only [i64_w, i32_w]; rw [c23b0]) | skip)
                   have H' := Aside0.mk H
                   clear H
                   go_wp2
                   go_meet
                   case rel => exact ⟨_, ((a0 == 26)), (by first | rfl | (simp; done) | (simp [*]; done)), H', ⟨by have := HJ1.out; have := HJ10.out; have := HJ13.out; have := HJ17.out; first | omega | exact Nat.le_refl _⟩, by repeat (first | exact Drawn0.refl _ | apply Drawn0.step)⟩
                 case rest =>
                  clear HC22
                  try clear c1
                  try clear c2
                  try clear p2
                  try clear c4
                  try clear c4b0
                  try clear c5
                  try clear c6
                  try clear c6b0
                  try clear c7
                  try clear c7b0
                  try clear c8
                  try clear c8b0
                  try clear c8b1
                  try clear c9
                  try clear c9b0
                  try clear c9b1
                  try clear c10
                  try clear c10b0
                  try clear c10b1
                  try clear c12
                  try clear c12b0
                  try clear c12b1
                  try clear c13
                  try clear c15
                  try clear c15b0
                  try clear c15b1
                  try clear c16
                  try clear c17
                  try clear c17b0
                  try clear c17b1
                  try clear c19
                  try clear c19b0
                  try clear c19b1
                  try clear c20
                  try clear c21
                  try clear c21b0
                  try clear c21b1
                  try clear c23
                  try clear c23b0
                  try clear c23b1
                  try clear p2
                  obtain ⟨kq, x37_21, rfl, HA, HJ21, ⟨mc21, rfl⟩⟩ := hcut
                  cases kq with
                  | zero => exact absurd HA.out (by simp [impl_uses.j5])
                  | succ kj21 =>
                   have H := HA.out
                   clear HA
                   simp only [impl_uses.j5] at H
                   by_cases c24 : x37_21 = true
                   ·subst c24
                    rw [if_pos rfl] at H
                    obtain rfl := Option.some.inj H
                    go_wp2
                    go_ret
                    exact ⟨by first | rfl | (simp; done) | (simp [*]; done), by repeat (first | exact Drawn0.refl _ | apply Drawn0.step)⟩
                   ·replace c24 := Bool.eq_false_iff.mpr c24
                    subst c24
                    rw [if_neg (show ¬ (false = true) by decide)] at H
                    have HC25 := Aside0.mk H
                    clear H
                    go_upto_if 40 with (fail)
                    go_cut [40] (fun v40 wc => ∃ (kq : Nat) (x40_24 : Bool), v40 = .bool x40_24 ∧ Aside0 (impl_uses.j6 kq a0 x40_24 = some r) ∧ Aside0 (kq ≤ kj21) ∧ Drawn0 w wc)
                    case first =>
                     have H := HC25.out
                     clear HC25
                     by_cases c26 : a0 = 24
                     ·rw [if_pos c26] at H
                      have c26b0 : (a0 == 24) = true := beq_iff_eq.mpr c26
                      have c26b1 : (a0 != 24) = false := bne_eq_false_iff_eq.mpr c26
                      clear c26
                      (first | rw [c26b0] | (simp only [i64_w, i32_w]; rw [c26b0]) | skip)
                      have H' := Aside0.mk H
                      clear H
                      go_wp2
                      go_meet
                      case rel => exact ⟨_, ((a0 == 24)), (by first | rfl | (simp; done) | (simp [*]; done)), H', ⟨by have := HJ1.out; have := HJ10.out; have := HJ13.out; have := HJ17.out; have := HJ21.out; first | omega | exact Nat.le_refl _⟩, by repeat (first | exact Drawn0.refl _ | apply Drawn0.step)⟩
                     ·rw [if_neg c26] at H
                      have c26b0 : (a0 == 24) = false := beq_eq_false_iff_ne.mpr c26
                      have c26b1 : (a0 != 24) = true := bne_iff_ne.mpr c26
                      (first | rw [c26b0] | (simp only [i64_w, i32_w]; rw [c26b0]) | skip)
                      have H' := Aside0.mk H
                      clear H
                      go_wp2
                      go_meet
                      case rel => exact ⟨_, ((a0 == 25)), (by first | rfl | (simp; done) | (simp [*]; done)), H', ⟨by have := HJ1.out; have := HJ10.out; have := HJ13.out; have := HJ17.out; have := HJ21.out; first | omega | exact Nat.le_refl _⟩, by repeat (first | exact Drawn0.refl _ | apply Drawn0.step)⟩
                    case rest =>
                     clear HC25
                     try clear c1
                     try clear c2
                     try clear p2
                     try clear c4
                     try clear c4b0
                     try clear c5
                     try clear c6
                     try clear c6b0
                     try clear c7
                     try clear c7b0
                     try clear c8
                     try clear c8b0
                     try clear c8b1
                     try clear c9
                     try clear c9b0
                     try clear c9b1
                     try clear c10
                     try clear c10b0
                     try clear c10b1
                     try clear c12
                     try clear c12b0
                     try clear c12b1
                     try clear c13
                     try clear c15
                     try clear c15b0
                     try clear c15b1
                     try clear c16
                     try clear c17
                     try clear c17b0
                     try clear c17b1
                     try clear c19
                     try clear c19b0
                     try clear c19b1
                     try clear c20
                     try clear c21
                     try clear c21b0
                     try clear c21b1
                     try clear c23
                     try clear c23b0
                     try clear c23b1
                     try clear c24
                     try clear c26
                     try clear c26b0
                     try clear c26b1
                     try clear p2
                     obtain ⟨kq, x40_24, rfl, HA, HJ24, ⟨mc24, rfl⟩⟩ := hcut
                     cases kq with
                     | zero => exact absurd HA.out (by simp [impl_uses.j6])
                     | succ kj24 =>
                      have H := HA.out
                      clear HA
                      simp only [impl_uses.j6] at H
                      by_cases c27 : x40_24 = true
                      ·subst c27
                       rw [if_pos rfl] at H
                       obtain rfl := Option.some.inj H
                       go_wp2
                       go_ret
                       exact ⟨by first | rfl | (simp; done) | (simp [*]; done), by repeat (first | exact Drawn0.refl _ | apply Drawn0.step)⟩
                      ·replace c27 := Bool.eq_false_iff.mpr c27
                       subst c27
                       rw [if_neg (show ¬ (false = true) by decide)] at H
                       have HC28 := Aside0.mk H
                       clear H
                       go_upto_if 43 with (fail)
                       go_cut [43] (fun v43 wc => ∃ (kq : Nat) (x43_27 : Bool), v43 = .bool x43_27 ∧ Aside0 (impl_uses.j7 kq a0 x43_27 = some r) ∧ Aside0 (kq ≤ kj24) ∧ Drawn0 w wc)
                       case first =>
                        have H := HC28.out
                        clear HC28
                        by_cases c29 : a0 = 27
                        ·rw [if_pos c29] at H
                         have c29b0 : (a0 == 27) = true := beq_iff_eq.mpr c29
                         have c29b1 : (a0 != 27) = false := bne_eq_false_iff_eq.mpr c29
                         clear c29
                         (first | rw [c29b0] | (simp only [i64_w, i32_w]; rw [c29b0]) | skip)
                         have H' := Aside0.mk H
                         clear H
                         go_wp2
                         go_meet
                         case rel => exact ⟨_, ((a0 == 27)), (by first | rfl | (simp; done) | (simp [*]; done)), H', ⟨by have := HJ1.out; have := HJ10.out; have := HJ13.out; have := HJ17.out; have := HJ21.out; have := HJ24.out; first | omega | exact Nat.le_refl _⟩, by repeat (first | exact Drawn0.refl _ | apply Drawn0.step)⟩
                        ·rw [if_neg c29] at H
                         have c29b0 : (a0 == 27) = false := beq_eq_false_iff_ne.mpr c29
                         have c29b1 : (a0 != 27) = true := bne_iff_ne.mpr c29
                         (first | rw [c29b0] | (simp only [i64_w, i32_w]; rw [c29b0]) | skip)
                         have H' := Aside0.mk H
                         clear H
                         go_wp2
                         go_meet
                         case rel => exact ⟨_, ((a0 == 29)), (by first | rfl | (simp; done) | (simp [*]; done)), H', ⟨by have := HJ1.out; have := HJ10.out; have := HJ13.out; have := HJ17.out; have := HJ21.out; have := HJ24.out; first | omega | exact Nat.le_refl _⟩, by repeat (first | exact Drawn0.refl _ | apply Drawn0.step)⟩
                       case rest =>
                        clear HC28
                        try clear c1
                        try clear c2
                        try clear p2
                        try clear c4
                        try clear c4b0
                        try clear c5
                        try clear c6
                        try clear c6b0
                        try clear c7
                        try clear c7b0
                        try clear c8
                        try clear c8b0
                        try clear c8b1
                        try clear c9
                        try clear c9b0
                        try clear c9b1
                        try clear c10
                        try clear c10b0
                        try clear c10b1
                        try clear c12
                        try clear c12b0
                        try clear c12b1
                        try clear c13
                        try clear c15
                        try clear c15b0
                        try clear c15b1
                        try clear c16
                        try clear c17
                        try clear c17b0
                        try clear c17b1
                        try clear c19
                        try clear c19b0
                        try clear c19b1
                        try clear c20
                        try clear c21
                        try clear c21b0
                        try clear c21b1
                        try clear c23
                        try clear c23b0
                        try clear c23b1
                        try clear c24
                        try clear c26
                        try clear c26b0
                        try clear c26b1
                        try clear c27
                        try clear c29
                        try clear c29b0
                        try clear c29b1
                        try clear p2
                        obtain ⟨kq, x43_27, rfl, HA, HJ27, ⟨mc27, rfl⟩⟩ := hcut
                        cases kq with
                        | zero => exact absurd HA.out (by simp [impl_uses.j7])
                        | succ kj27 =>
                         have H := HA.out
                         clear HA
                         simp only [impl_uses.j7] at H
                         by_cases c30 : x43_27 = true
                         ·subst c30
                          rw [if_pos rfl] at H
                          obtain rfl := Option.some.inj H
                          go_wp2
                          go_ret
                          exact ⟨by first | rfl | (simp; done) | (simp [*]; done), by repeat (first | exact Drawn0.refl _ | apply Drawn0.step)⟩
                         ·replace c30 := Bool.eq_false_iff.mpr c30
                          subst c30
                          rw [if_neg (show ¬ (false = true) by decide)] at H
                          by_cases c31 : a0 = 28
                          ·rw [if_pos c31] at H
                           have c31b0 : (a0 == 28) = true := beq_iff_eq.mpr c31
                           have c31b1 : (a0 != 28) = false := bne_eq_false_iff_eq.mpr c31
                           clear c31
                           obtain rfl := Option.some.inj H
                           go_wp2
                           go_ret
                           exact ⟨by first | rfl | (simp; done) | (simp [*]; done), by repeat (first | exact Drawn0.refl _ | apply Drawn0.step)⟩
                          ·rw [if_neg c31] at H
                           have c31b0 : (a0 == 28) = false := beq_eq_false_iff_ne.mpr c31
                           have c31b1 : (a0 != 28) = true := bne_iff_ne.mpr c31
                           obtain rfl := Option.some.inj H
                           go_wp2
                           go_ret
                           exact ⟨by first | rfl | (simp; done) | (simp [*]; done), by repeat (first | exact Drawn0.refl _ | apply Drawn0.step)⟩

end Go.Proofs.Ytcjdgimiobhhnaa.QFnIns
