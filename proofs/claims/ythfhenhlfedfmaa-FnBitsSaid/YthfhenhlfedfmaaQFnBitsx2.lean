-- written by mp.py, a program of this session, over the translation; Lean checks it
import Derived.Test.YthfhenhlfedfmaaQFnBitsx0
import Derived.Test.YthfhenhlfedfmaaQFnBitsx1
namespace Go.Proofs.Ythfhenhlfedfmaa.QFnBits
open Go.RowKit Go.Proofs.YthfhenhlfedfmaaW.PrintWords Go.Proofs.YthfhenhlfedfmaaW.PrintLast Go.Proofs.YthfhenhlfedfmaaW.PrintMore
attribute [local go_sem] max2_int min2_int max_two min_two max_three min_three max_four min_four   -- for this text's walks alone
set_option linter.unusedVariables false
set_option linter.unusedSimpArgs false

/-! ### laws_lwWord: function 57 -/
def laws_lwWord.l0 : Nat → List Int → Int → Int → Int → Int → Option (Int)
  | 0, _, _, _, _, _ => none
  | k + 1, x0, x1, x2, x7, x8 => if x8 < 8 then ((laws_lwAt.f x0 (wrap64 ((wrap64 (x1 + 1)) + x8)) 256).bind fun t110 => (laws_lwWord.l0 k x0 x1 x2 (Go.bits .or .u64 (IntKind.u64.wrap (x7 * 256)) (IntKind.u64.wrap (t110))) (wrap64 (x8 + 1)))) else (if x2 < 64 then (if 0 ≤ (IntKind.u64.wrap (x2)) then (some (Go.bits .and .u64 x7 (IntKind.u64.wrap ((shl .u64 1 (IntKind.u64.wrap (x2))) - 1)))) else (none)) else (some x7))
def laws_lwWord.f (k : Nat) (l0 : List Int) (a1 : Int) (a2 : Int) : Option (Int) := (laws_lwAt.f l0 a1 5).bind fun t106 => (if t106 = 0 then ((laws_lwAt.f l0 (wrap64 (a1 + 1)) 7).bind fun t107 => (if a2 < 64 then (if 0 ≤ (IntKind.u64.wrap (a2)) then (some (Go.bits .and .u64 (IntKind.u64.wrap (t107)) (IntKind.u64.wrap ((shl .u64 1 (IntKind.u64.wrap (a2))) - 1)))) else (none)) else (some (IntKind.u64.wrap (t107))))) else (if t106 = 1 then ((laws_lwAt.f l0 (wrap64 (a1 + 1)) 7).bind fun t108 => (if a2 < 64 then (if 0 ≤ (IntKind.u64.wrap (a2)) then (some (Go.bits .and .u64 (IntKind.u64.wrap (-(IntKind.u64.wrap (t108)))) (IntKind.u64.wrap ((shl .u64 1 (IntKind.u64.wrap (a2))) - 1)))) else (none)) else (some (IntKind.u64.wrap (-(IntKind.u64.wrap (t108))))))) else (if t106 = 2 then (if 0 ≤ (IntKind.u64.wrap (wrap64 (a2 - 1))) then ((laws_lwAt.f l0 (wrap64 (a1 + 1)) 3).bind fun t109 => (if a2 < 64 then (if 0 ≤ (IntKind.u64.wrap (a2)) then (some (Go.bits .and .u64 (IntKind.u64.wrap ((IntKind.u64.wrap ((shl .u64 1 (IntKind.u64.wrap (wrap64 (a2 - 1)))) - (IntKind.u64.wrap (t109)))) + 1)) (IntKind.u64.wrap ((shl .u64 1 (IntKind.u64.wrap (a2))) - 1)))) else (none)) else (some (IntKind.u64.wrap ((IntKind.u64.wrap ((shl .u64 1 (IntKind.u64.wrap (wrap64 (a2 - 1)))) - (IntKind.u64.wrap (t109)))) + 1))))) else (none)) else (laws_lwWord.l0 k l0 a1 a2 0 0))))
theorem laws_lwWord.mono_l : ∀ k, (∀ y0 y1 y2 y3 y4, LeO (laws_lwWord.l0 k y0 y1 y2 y3 y4) (laws_lwWord.l0 (k + 1) y0 y1 y2 y3 y4))
  | 0 => fun _ _ _ _ _ r h => by simp [laws_lwWord.l0] at h
  | k + 1 => by
    have ih0 := laws_lwWord.mono_l k
    · intro y0 y1 y2 y3 y4
      unfold laws_lwWord.l0
      repeat' first
      | (with_reducible exact ih0 _ _ _ _ _)
      | (with_reducible exact LeO.refl _)
      | (with_reducible exact LeO.none _)
      | (with_reducible refine LeO.ite ?_ ?_)
      | (with_reducible refine LeO.bind ?_ (fun _ => ?_))
      | exact ih0 _ _ _ _ _
      | exact LeO.none _
      | refine LeO.ite ?_ ?_
      | refine LeO.bind ?_ (fun _ => ?_)
theorem laws_lwWord.mono : ∀ a0 a1 a2 k, LeO (laws_lwWord.f k a0 a1 a2) (laws_lwWord.f (k + 1) a0 a1 a2) := by
  intro a0 a1 a2 k
  have ih0 := laws_lwWord.mono_l k
  unfold laws_lwWord.f
  repeat' first
      | (with_reducible exact ih0 _ _ _ _ _)
      | (with_reducible exact LeO.refl _)
      | (with_reducible exact LeO.none _)
      | (with_reducible refine LeO.ite ?_ ?_)
      | (with_reducible refine LeO.bind ?_ (fun _ => ?_))
      | exact ih0 _ _ _ _ _
      | exact LeO.none _
      | refine LeO.ite ?_ ?_
      | refine LeO.bind ?_ (fun _ => ?_)
set_option maxHeartbeats 8000000 in
set_option maxRecDepth 100000 in
theorem laws_lwWord.calls (k : Nat) (A0 : Option Addr) (c0 : Nat) (l0 : List Int) (a1 : Int) (a2 : Int) (r : Int) (w : World) (hr0 : Kd.C (Kd.int .u8) w A0 l0.length l0) (hc0 : l0.length ≤ c0) (h : laws_lwWord.f k l0 a1 a2 = some r) :
    Calls Try.prog 57 #[.slice A0 l0.length c0, .int .i64 a1, .int .i64 a2] w fun e w' => e = .returned (.int .u64 r) ∧ Drawn0 w w' := by
  have HR0 := Aside0.mk hr0
  have HC0 := Aside0.mk hc0
  clear hr0 hc0
  have H : ((laws_lwAt.f l0 a1 5).bind fun t106 => (if t106 = 0 then ((laws_lwAt.f l0 (wrap64 (a1 + 1)) 7).bind fun t107 => (if a2 < 64 then (if 0 ≤ (IntKind.u64.wrap (a2)) then (some (Go.bits .and .u64 (IntKind.u64.wrap (t107)) (IntKind.u64.wrap ((shl .u64 1 (IntKind.u64.wrap (a2))) - 1)))) else (none)) else (some (IntKind.u64.wrap (t107))))) else (if t106 = 1 then ((laws_lwAt.f l0 (wrap64 (a1 + 1)) 7).bind fun t108 => (if a2 < 64 then (if 0 ≤ (IntKind.u64.wrap (a2)) then (some (Go.bits .and .u64 (IntKind.u64.wrap (-(IntKind.u64.wrap (t108)))) (IntKind.u64.wrap ((shl .u64 1 (IntKind.u64.wrap (a2))) - 1)))) else (none)) else (some (IntKind.u64.wrap (-(IntKind.u64.wrap (t108))))))) else (if t106 = 2 then (if 0 ≤ (IntKind.u64.wrap (wrap64 (a2 - 1))) then ((laws_lwAt.f l0 (wrap64 (a1 + 1)) 3).bind fun t109 => (if a2 < 64 then (if 0 ≤ (IntKind.u64.wrap (a2)) then (some (Go.bits .and .u64 (IntKind.u64.wrap ((IntKind.u64.wrap ((shl .u64 1 (IntKind.u64.wrap (wrap64 (a2 - 1)))) - (IntKind.u64.wrap (t109)))) + 1)) (IntKind.u64.wrap ((shl .u64 1 (IntKind.u64.wrap (a2))) - 1)))) else (none)) else (some (IntKind.u64.wrap ((IntKind.u64.wrap ((shl .u64 1 (IntKind.u64.wrap (wrap64 (a2 - 1)))) - (IntKind.u64.wrap (t109)))) + 1))))) else (none)) else (laws_lwWord.l0 k l0 a1 a2 0 0))))) = some r := h
  clear h
  replace H := Option.bind_eq_some_iff.mp H
  obtain ⟨t106, A40, H⟩ := H
  replace H : (if t106 = 0 then ((laws_lwAt.f l0 (wrap64 (a1 + 1)) 7).bind fun t107 => (if a2 < 64 then (if 0 ≤ (IntKind.u64.wrap (a2)) then (some (Go.bits .and .u64 (IntKind.u64.wrap (t107)) (IntKind.u64.wrap ((shl .u64 1 (IntKind.u64.wrap (a2))) - 1)))) else (none)) else (some (IntKind.u64.wrap (t107))))) else (if t106 = 1 then ((laws_lwAt.f l0 (wrap64 (a1 + 1)) 7).bind fun t108 => (if a2 < 64 then (if 0 ≤ (IntKind.u64.wrap (a2)) then (some (Go.bits .and .u64 (IntKind.u64.wrap (-(IntKind.u64.wrap (t108)))) (IntKind.u64.wrap ((shl .u64 1 (IntKind.u64.wrap (a2))) - 1)))) else (none)) else (some (IntKind.u64.wrap (-(IntKind.u64.wrap (t108))))))) else (if t106 = 2 then (if 0 ≤ (IntKind.u64.wrap (wrap64 (a2 - 1))) then ((laws_lwAt.f l0 (wrap64 (a1 + 1)) 3).bind fun t109 => (if a2 < 64 then (if 0 ≤ (IntKind.u64.wrap (a2)) then (some (Go.bits .and .u64 (IntKind.u64.wrap ((IntKind.u64.wrap ((shl .u64 1 (IntKind.u64.wrap (wrap64 (a2 - 1)))) - (IntKind.u64.wrap (t109)))) + 1)) (IntKind.u64.wrap ((shl .u64 1 (IntKind.u64.wrap (a2))) - 1)))) else (none)) else (some (IntKind.u64.wrap ((IntKind.u64.wrap ((shl .u64 1 (IntKind.u64.wrap (wrap64 (a2 - 1)))) - (IntKind.u64.wrap (t109)))) + 1))))) else (none)) else (laws_lwWord.l0 k l0 a1 a2 0 0)))) = some r := H
  have A4 := Aside0.mk A40
  clear A40
  by_cases c5 : t106 = 0
  · rw [if_pos c5] at H
    have c5b0 : (t106 == 0) = true := beq_iff_eq.mpr c5
    have c5b1 : (t106 != 0) = false := bne_eq_false_iff_eq.mpr c5
    clear c5
    replace H := Option.bind_eq_some_iff.mp H
    obtain ⟨t107, A60, H⟩ := H
    replace H : (if a2 < 64 then (if 0 ≤ (IntKind.u64.wrap (a2)) then (some (Go.bits .and .u64 (IntKind.u64.wrap (t107)) (IntKind.u64.wrap ((shl .u64 1 (IntKind.u64.wrap (a2))) - 1)))) else (none)) else (some (IntKind.u64.wrap (t107)))) = some r := H
    have A6 := Aside0.mk A60
    clear A60
    by_cases c7 : a2 < 64
    · rw [if_pos c7] at H
      have c7b0 : decide (a2 < 64) = true := decide_eq_true c7
      clear c7
      obtain ⟨ji8, hji8⟩ : ∃ j_ : Int, (IntKind.u64.wrap (a2)) = j_ := ⟨_, rfl⟩
      replace H : (if 0 ≤ (ji8) then (some (Go.bits .and .u64 (IntKind.u64.wrap (t107)) (IntKind.u64.wrap ((shl .u64 1 (ji8)) - 1)))) else (none)) = some r := by first | (rw [hji8] at H; exact H) | (simp only [hji8] at H ⊢; exact H)
      (try rw [hji8] at A4)
      (try rw [hji8] at A6)
      by_cases c9 : 0 ≤ (ji8)
      · rw [if_pos c9] at H
        have c9b0 := eq_true c9
        have c9b1 : decide (0 ≤ (ji8)) = true := decide_eq_true c9
        clear c9
        obtain ⟨ji10, hji10⟩ : ∃ j_ : Int, (shl .u64 1 (ji8)) = j_ := ⟨_, rfl⟩
        replace H : (some (Go.bits .and .u64 (IntKind.u64.wrap (t107)) (IntKind.u64.wrap ((ji10) - 1)))) = some r := by first | (rw [hji10] at H; exact H) | (simp only [hji10] at H ⊢; exact H)
        (try rw [hji10] at A4)
        (try rw [hji10] at A6)
        have hji10_ : (IntKind.u64.wrap (1 * 2 ^ min (ji8).toNat 64)) = ji10 := hji10
        have hji10z : (ji8) ≤ 64 → (IntKind.u64.wrap (1 * 2 ^ (ji8).toNat)) = ji10 := shl_small hji10
        have hji10u : (IntKind.u64.wrap (2 ^ min (ji8).toNat 64)) = ji10 := by have h_ := hji10_; rw [Int.one_mul] at h_; exact h_
        have hji10v : (ji8) ≤ 64 → (IntKind.u64.wrap (2 ^ (ji8).toNat)) = ji10 := fun hle_ => by have h_ := hji10z hle_; rw [Int.one_mul] at h_; exact h_
        obtain rfl := Option.some.inj H
        go_enter Try.func57, Try.ntmps57
        go_wp2_with (first | ((with_reducible refine gate_callee (f := 56) rfl ?_); refine goesL_ (some 11) rfl rfl Try.func56 (by kernel_rfl) rfl #[.slice A0 l0.length c0, .int .i64 a1, .int .i64 5] rfl (by (try simp only [List.map_toArray, List.map_cons, List.map_nil]); first | done | rfl | (simp only [List.length_drop, List.length_take]; rfl)) ?_; (with_reducible refine (laws_lwAt.calls _ _ l0 a1 5 t106 _ ?side1 ?side2 A4.out).mono ?_); (case side1 => repeat (first | exact HR0.out | (with_reducible refine Kd.C_alloc ?_ _) | (with_reducible refine Kd.C_drewN ?_ _) | (with_reducible refine Kd.C_drew ?_))); (case side2 => exact HC0.out); rintro e w' ⟨rfl, ⟨nd, rfl⟩⟩; refine ⟨_, rfl, ?_⟩) | ((with_reducible refine gate_callee (f := 56) rfl ?_); refine goesL_ (some 31) rfl rfl Try.func56 (by kernel_rfl) rfl #[.slice A0 l0.length c0, .int .i64 (wrap64 (a1 + 1)), .int .i64 7] rfl (by (try simp only [List.map_toArray, List.map_cons, List.map_nil]); first | done | rfl | (simp only [List.length_drop, List.length_take]; rfl)) ?_; (with_reducible refine (laws_lwAt.calls _ _ l0 (wrap64 (a1 + 1)) 7 t107 _ ?side1 ?side2 A6.out).mono ?_); (case side1 => repeat (first | exact HR0.out | (with_reducible refine Kd.C_alloc ?_ _) | (with_reducible refine Kd.C_drewN ?_ _) | (with_reducible refine Kd.C_drew ?_))); (case side2 => exact HC0.out); rintro e w' ⟨rfl, ⟨nd, rfl⟩⟩; refine ⟨_, rfl, ?_⟩))
        go_ret
        exact ⟨by first | rfl | (simp; done) | (simp only [← hji8, ← hji10] <;> (first | rfl | simp)) | (simp [*]; done), by repeat (first | exact Drawn0.refl _ | apply Drawn0.step)⟩
      · rw [if_neg c9] at H
        exact absurd H (by simp)
    · rw [if_neg c7] at H
      have c7b0 : decide (a2 < 64) = false := decide_eq_false c7
      clear c7
      obtain rfl := Option.some.inj H
      go_enter Try.func57, Try.ntmps57
      go_wp2_with (first | ((with_reducible refine gate_callee (f := 56) rfl ?_); refine goesL_ (some 11) rfl rfl Try.func56 (by kernel_rfl) rfl #[.slice A0 l0.length c0, .int .i64 a1, .int .i64 5] rfl (by (try simp only [List.map_toArray, List.map_cons, List.map_nil]); first | done | rfl | (simp only [List.length_drop, List.length_take]; rfl)) ?_; (with_reducible refine (laws_lwAt.calls _ _ l0 a1 5 t106 _ ?side1 ?side2 A4.out).mono ?_); (case side1 => repeat (first | exact HR0.out | (with_reducible refine Kd.C_alloc ?_ _) | (with_reducible refine Kd.C_drewN ?_ _) | (with_reducible refine Kd.C_drew ?_))); (case side2 => exact HC0.out); rintro e w' ⟨rfl, ⟨nd, rfl⟩⟩; refine ⟨_, rfl, ?_⟩) | ((with_reducible refine gate_callee (f := 56) rfl ?_); refine goesL_ (some 31) rfl rfl Try.func56 (by kernel_rfl) rfl #[.slice A0 l0.length c0, .int .i64 (wrap64 (a1 + 1)), .int .i64 7] rfl (by (try simp only [List.map_toArray, List.map_cons, List.map_nil]); first | done | rfl | (simp only [List.length_drop, List.length_take]; rfl)) ?_; (with_reducible refine (laws_lwAt.calls _ _ l0 (wrap64 (a1 + 1)) 7 t107 _ ?side1 ?side2 A6.out).mono ?_); (case side1 => repeat (first | exact HR0.out | (with_reducible refine Kd.C_alloc ?_ _) | (with_reducible refine Kd.C_drewN ?_ _) | (with_reducible refine Kd.C_drew ?_))); (case side2 => exact HC0.out); rintro e w' ⟨rfl, ⟨nd, rfl⟩⟩; refine ⟨_, rfl, ?_⟩))
      go_ret
      exact ⟨by first | rfl | (simp; done) | (simp [*]; done), by repeat (first | exact Drawn0.refl _ | apply Drawn0.step)⟩
  · rw [if_neg c5] at H
    have c5b0 : (t106 == 0) = false := beq_eq_false_iff_ne.mpr c5
    have c5b1 : (t106 != 0) = true := bne_iff_ne.mpr c5
    by_cases c11 : t106 = 1
    · rw [if_pos c11] at H
      have c11b0 : (t106 == 1) = true := beq_iff_eq.mpr c11
      have c11b1 : (t106 != 1) = false := bne_eq_false_iff_eq.mpr c11
      clear c11
      replace H := Option.bind_eq_some_iff.mp H
      obtain ⟨t108, A120, H⟩ := H
      replace H : (if a2 < 64 then (if 0 ≤ (IntKind.u64.wrap (a2)) then (some (Go.bits .and .u64 (IntKind.u64.wrap (-(IntKind.u64.wrap (t108)))) (IntKind.u64.wrap ((shl .u64 1 (IntKind.u64.wrap (a2))) - 1)))) else (none)) else (some (IntKind.u64.wrap (-(IntKind.u64.wrap (t108)))))) = some r := H
      have A12 := Aside0.mk A120
      clear A120
      by_cases c13 : a2 < 64
      · rw [if_pos c13] at H
        have c13b0 : decide (a2 < 64) = true := decide_eq_true c13
        clear c13
        obtain ⟨ji14, hji14⟩ : ∃ j_ : Int, (IntKind.u64.wrap (a2)) = j_ := ⟨_, rfl⟩
        replace H : (if 0 ≤ (ji14) then (some (Go.bits .and .u64 (IntKind.u64.wrap (-(IntKind.u64.wrap (t108)))) (IntKind.u64.wrap ((shl .u64 1 (ji14)) - 1)))) else (none)) = some r := by first | (rw [hji14] at H; exact H) | (simp only [hji14] at H ⊢; exact H)
        (try rw [hji14] at A4)
        (try rw [hji14] at A12)
        by_cases c15 : 0 ≤ (ji14)
        · rw [if_pos c15] at H
          have c15b0 := eq_true c15
          have c15b1 : decide (0 ≤ (ji14)) = true := decide_eq_true c15
          clear c15
          obtain ⟨ji16, hji16⟩ : ∃ j_ : Int, (shl .u64 1 (ji14)) = j_ := ⟨_, rfl⟩
          replace H : (some (Go.bits .and .u64 (IntKind.u64.wrap (-(IntKind.u64.wrap (t108)))) (IntKind.u64.wrap ((ji16) - 1)))) = some r := by first | (rw [hji16] at H; exact H) | (simp only [hji16] at H ⊢; exact H)
          (try rw [hji16] at A4)
          (try rw [hji16] at A12)
          have hji16_ : (IntKind.u64.wrap (1 * 2 ^ min (ji14).toNat 64)) = ji16 := hji16
          have hji16z : (ji14) ≤ 64 → (IntKind.u64.wrap (1 * 2 ^ (ji14).toNat)) = ji16 := shl_small hji16
          have hji16u : (IntKind.u64.wrap (2 ^ min (ji14).toNat 64)) = ji16 := by have h_ := hji16_; rw [Int.one_mul] at h_; exact h_
          have hji16v : (ji14) ≤ 64 → (IntKind.u64.wrap (2 ^ (ji14).toNat)) = ji16 := fun hle_ => by have h_ := hji16z hle_; rw [Int.one_mul] at h_; exact h_
          obtain rfl := Option.some.inj H
          go_enter Try.func57, Try.ntmps57
          go_wp2_with (first | ((with_reducible refine gate_callee (f := 56) rfl ?_); refine goesL_ (some 11) rfl rfl Try.func56 (by kernel_rfl) rfl #[.slice A0 l0.length c0, .int .i64 a1, .int .i64 5] rfl (by (try simp only [List.map_toArray, List.map_cons, List.map_nil]); first | done | rfl | (simp only [List.length_drop, List.length_take]; rfl)) ?_; (with_reducible refine (laws_lwAt.calls _ _ l0 a1 5 t106 _ ?side1 ?side2 A4.out).mono ?_); (case side1 => repeat (first | exact HR0.out | (with_reducible refine Kd.C_alloc ?_ _) | (with_reducible refine Kd.C_drewN ?_ _) | (with_reducible refine Kd.C_drew ?_))); (case side2 => exact HC0.out); rintro e w' ⟨rfl, ⟨nd, rfl⟩⟩; refine ⟨_, rfl, ?_⟩) | ((with_reducible refine gate_callee (f := 56) rfl ?_); refine goesL_ (some 38) rfl rfl Try.func56 (by kernel_rfl) rfl #[.slice A0 l0.length c0, .int .i64 (wrap64 (a1 + 1)), .int .i64 7] rfl (by (try simp only [List.map_toArray, List.map_cons, List.map_nil]); first | done | rfl | (simp only [List.length_drop, List.length_take]; rfl)) ?_; (with_reducible refine (laws_lwAt.calls _ _ l0 (wrap64 (a1 + 1)) 7 t108 _ ?side1 ?side2 A12.out).mono ?_); (case side1 => repeat (first | exact HR0.out | (with_reducible refine Kd.C_alloc ?_ _) | (with_reducible refine Kd.C_drewN ?_ _) | (with_reducible refine Kd.C_drew ?_))); (case side2 => exact HC0.out); rintro e w' ⟨rfl, ⟨nd, rfl⟩⟩; refine ⟨_, rfl, ?_⟩))
          go_ret
          exact ⟨by first | rfl | (simp; done) | (simp only [← hji14, ← hji16] <;> (first | rfl | simp)) | (simp [*]; done), by repeat (first | exact Drawn0.refl _ | apply Drawn0.step)⟩
        · rw [if_neg c15] at H
          exact absurd H (by simp)
      · rw [if_neg c13] at H
        have c13b0 : decide (a2 < 64) = false := decide_eq_false c13
        clear c13
        obtain rfl := Option.some.inj H
        go_enter Try.func57, Try.ntmps57
        go_wp2_with (first | ((with_reducible refine gate_callee (f := 56) rfl ?_); refine goesL_ (some 11) rfl rfl Try.func56 (by kernel_rfl) rfl #[.slice A0 l0.length c0, .int .i64 a1, .int .i64 5] rfl (by (try simp only [List.map_toArray, List.map_cons, List.map_nil]); first | done | rfl | (simp only [List.length_drop, List.length_take]; rfl)) ?_; (with_reducible refine (laws_lwAt.calls _ _ l0 a1 5 t106 _ ?side1 ?side2 A4.out).mono ?_); (case side1 => repeat (first | exact HR0.out | (with_reducible refine Kd.C_alloc ?_ _) | (with_reducible refine Kd.C_drewN ?_ _) | (with_reducible refine Kd.C_drew ?_))); (case side2 => exact HC0.out); rintro e w' ⟨rfl, ⟨nd, rfl⟩⟩; refine ⟨_, rfl, ?_⟩) | ((with_reducible refine gate_callee (f := 56) rfl ?_); refine goesL_ (some 38) rfl rfl Try.func56 (by kernel_rfl) rfl #[.slice A0 l0.length c0, .int .i64 (wrap64 (a1 + 1)), .int .i64 7] rfl (by (try simp only [List.map_toArray, List.map_cons, List.map_nil]); first | done | rfl | (simp only [List.length_drop, List.length_take]; rfl)) ?_; (with_reducible refine (laws_lwAt.calls _ _ l0 (wrap64 (a1 + 1)) 7 t108 _ ?side1 ?side2 A12.out).mono ?_); (case side1 => repeat (first | exact HR0.out | (with_reducible refine Kd.C_alloc ?_ _) | (with_reducible refine Kd.C_drewN ?_ _) | (with_reducible refine Kd.C_drew ?_))); (case side2 => exact HC0.out); rintro e w' ⟨rfl, ⟨nd, rfl⟩⟩; refine ⟨_, rfl, ?_⟩))
        go_ret
        exact ⟨by first | rfl | (simp; done) | (simp [*]; done), by repeat (first | exact Drawn0.refl _ | apply Drawn0.step)⟩
    · rw [if_neg c11] at H
      have c11b0 : (t106 == 1) = false := beq_eq_false_iff_ne.mpr c11
      have c11b1 : (t106 != 1) = true := bne_iff_ne.mpr c11
      by_cases c17 : t106 = 2
      · rw [if_pos c17] at H
        have c17b0 : (t106 == 2) = true := beq_iff_eq.mpr c17
        have c17b1 : (t106 != 2) = false := bne_eq_false_iff_eq.mpr c17
        clear c17
        obtain ⟨ji18, hji18⟩ : ∃ j_ : Int, (IntKind.u64.wrap (wrap64 (a2 - 1))) = j_ := ⟨_, rfl⟩
        replace H : (if 0 ≤ (ji18) then ((laws_lwAt.f l0 (wrap64 (a1 + 1)) 3).bind fun t109 => (if a2 < 64 then (if 0 ≤ (IntKind.u64.wrap (a2)) then (some (Go.bits .and .u64 (IntKind.u64.wrap ((IntKind.u64.wrap ((shl .u64 1 (ji18)) - (IntKind.u64.wrap (t109)))) + 1)) (IntKind.u64.wrap ((shl .u64 1 (IntKind.u64.wrap (a2))) - 1)))) else (none)) else (some (IntKind.u64.wrap ((IntKind.u64.wrap ((shl .u64 1 (ji18)) - (IntKind.u64.wrap (t109)))) + 1))))) else (none)) = some r := by first | (rw [hji18] at H; exact H) | (simp only [hji18] at H ⊢; exact H)
        (try rw [hji18] at A4)
        by_cases c19 : 0 ≤ (ji18)
        · rw [if_pos c19] at H
          have c19b0 := eq_true c19
          have c19b1 : decide (0 ≤ (ji18)) = true := decide_eq_true c19
          clear c19
          obtain ⟨ji20, hji20⟩ : ∃ j_ : Int, (shl .u64 1 (ji18)) = j_ := ⟨_, rfl⟩
          replace H : ((laws_lwAt.f l0 (wrap64 (a1 + 1)) 3).bind fun t109 => (if a2 < 64 then (if 0 ≤ (IntKind.u64.wrap (a2)) then (some (Go.bits .and .u64 (IntKind.u64.wrap ((IntKind.u64.wrap ((ji20) - (IntKind.u64.wrap (t109)))) + 1)) (IntKind.u64.wrap ((shl .u64 1 (IntKind.u64.wrap (a2))) - 1)))) else (none)) else (some (IntKind.u64.wrap ((IntKind.u64.wrap ((ji20) - (IntKind.u64.wrap (t109)))) + 1))))) = some r := by first | (rw [hji20] at H; exact H) | (simp only [hji20] at H ⊢; exact H)
          (try rw [hji20] at A4)
          have hji20_ : (IntKind.u64.wrap (1 * 2 ^ min (ji18).toNat 64)) = ji20 := hji20
          have hji20z : (ji18) ≤ 64 → (IntKind.u64.wrap (1 * 2 ^ (ji18).toNat)) = ji20 := shl_small hji20
          have hji20u : (IntKind.u64.wrap (2 ^ min (ji18).toNat 64)) = ji20 := by have h_ := hji20_; rw [Int.one_mul] at h_; exact h_
          have hji20v : (ji18) ≤ 64 → (IntKind.u64.wrap (2 ^ (ji18).toNat)) = ji20 := fun hle_ => by have h_ := hji20z hle_; rw [Int.one_mul] at h_; exact h_
          replace H := Option.bind_eq_some_iff.mp H
          obtain ⟨t109, A210, H⟩ := H
          replace H : (if a2 < 64 then (if 0 ≤ (IntKind.u64.wrap (a2)) then (some (Go.bits .and .u64 (IntKind.u64.wrap ((IntKind.u64.wrap ((ji20) - (IntKind.u64.wrap (t109)))) + 1)) (IntKind.u64.wrap ((shl .u64 1 (IntKind.u64.wrap (a2))) - 1)))) else (none)) else (some (IntKind.u64.wrap ((IntKind.u64.wrap ((ji20) - (IntKind.u64.wrap (t109)))) + 1)))) = some r := H
          have A21 := Aside0.mk A210
          clear A210
          by_cases c22 : a2 < 64
          · rw [if_pos c22] at H
            have c22b0 : decide (a2 < 64) = true := decide_eq_true c22
            clear c22
            obtain ⟨ji23, hji23⟩ : ∃ j_ : Int, (IntKind.u64.wrap (a2)) = j_ := ⟨_, rfl⟩
            replace H : (if 0 ≤ (ji23) then (some (Go.bits .and .u64 (IntKind.u64.wrap ((IntKind.u64.wrap ((ji20) - (IntKind.u64.wrap (t109)))) + 1)) (IntKind.u64.wrap ((shl .u64 1 (ji23)) - 1)))) else (none)) = some r := by first | (rw [hji23] at H; exact H) | (simp only [hji23] at H ⊢; exact H)
            (try rw [hji23] at A4)
            (try rw [hji23] at A21)
            by_cases c24 : 0 ≤ (ji23)
            · rw [if_pos c24] at H
              have c24b0 := eq_true c24
              have c24b1 : decide (0 ≤ (ji23)) = true := decide_eq_true c24
              clear c24
              obtain ⟨ji25, hji25⟩ : ∃ j_ : Int, (shl .u64 1 (ji23)) = j_ := ⟨_, rfl⟩
              replace H : (some (Go.bits .and .u64 (IntKind.u64.wrap ((IntKind.u64.wrap ((ji20) - (IntKind.u64.wrap (t109)))) + 1)) (IntKind.u64.wrap ((ji25) - 1)))) = some r := by first | (rw [hji25] at H; exact H) | (simp only [hji25] at H ⊢; exact H)
              (try rw [hji25] at A4)
              (try rw [hji25] at A21)
              have hji25_ : (IntKind.u64.wrap (1 * 2 ^ min (ji23).toNat 64)) = ji25 := hji25
              have hji25z : (ji23) ≤ 64 → (IntKind.u64.wrap (1 * 2 ^ (ji23).toNat)) = ji25 := shl_small hji25
              have hji25u : (IntKind.u64.wrap (2 ^ min (ji23).toNat 64)) = ji25 := by have h_ := hji25_; rw [Int.one_mul] at h_; exact h_
              have hji25v : (ji23) ≤ 64 → (IntKind.u64.wrap (2 ^ (ji23).toNat)) = ji25 := fun hle_ => by have h_ := hji25z hle_; rw [Int.one_mul] at h_; exact h_
              obtain rfl := Option.some.inj H
              go_enter Try.func57, Try.ntmps57
              go_wp2_with (first | ((with_reducible refine gate_callee (f := 56) rfl ?_); refine goesL_ (some 11) rfl rfl Try.func56 (by kernel_rfl) rfl #[.slice A0 l0.length c0, .int .i64 a1, .int .i64 5] rfl (by (try simp only [List.map_toArray, List.map_cons, List.map_nil]); first | done | rfl | (simp only [List.length_drop, List.length_take]; rfl)) ?_; (with_reducible refine (laws_lwAt.calls _ _ l0 a1 5 t106 _ ?side1 ?side2 A4.out).mono ?_); (case side1 => repeat (first | exact HR0.out | (with_reducible refine Kd.C_alloc ?_ _) | (with_reducible refine Kd.C_drewN ?_ _) | (with_reducible refine Kd.C_drew ?_))); (case side2 => exact HC0.out); rintro e w' ⟨rfl, ⟨nd, rfl⟩⟩; refine ⟨_, rfl, ?_⟩) | ((with_reducible refine gate_callee (f := 56) rfl ?_); refine goesL_ (some 50) rfl rfl Try.func56 (by kernel_rfl) rfl #[.slice A0 l0.length c0, .int .i64 (wrap64 (a1 + 1)), .int .i64 3] rfl (by (try simp only [List.map_toArray, List.map_cons, List.map_nil]); first | done | rfl | (simp only [List.length_drop, List.length_take]; rfl)) ?_; (with_reducible refine (laws_lwAt.calls _ _ l0 (wrap64 (a1 + 1)) 3 t109 _ ?side1 ?side2 A21.out).mono ?_); (case side1 => repeat (first | exact HR0.out | (with_reducible refine Kd.C_alloc ?_ _) | (with_reducible refine Kd.C_drewN ?_ _) | (with_reducible refine Kd.C_drew ?_))); (case side2 => exact HC0.out); rintro e w' ⟨rfl, ⟨nd, rfl⟩⟩; refine ⟨_, rfl, ?_⟩))
              go_ret
              exact ⟨by first | rfl | (simp; done) | (simp only [← hji18, ← hji20, ← hji23, ← hji25] <;> (first | rfl | simp)) | (simp [*]; done), by repeat (first | exact Drawn0.refl _ | apply Drawn0.step)⟩
            · rw [if_neg c24] at H
              exact absurd H (by simp)
          · rw [if_neg c22] at H
            have c22b0 : decide (a2 < 64) = false := decide_eq_false c22
            clear c22
            obtain rfl := Option.some.inj H
            go_enter Try.func57, Try.ntmps57
            go_wp2_with (first | ((with_reducible refine gate_callee (f := 56) rfl ?_); refine goesL_ (some 11) rfl rfl Try.func56 (by kernel_rfl) rfl #[.slice A0 l0.length c0, .int .i64 a1, .int .i64 5] rfl (by (try simp only [List.map_toArray, List.map_cons, List.map_nil]); first | done | rfl | (simp only [List.length_drop, List.length_take]; rfl)) ?_; (with_reducible refine (laws_lwAt.calls _ _ l0 a1 5 t106 _ ?side1 ?side2 A4.out).mono ?_); (case side1 => repeat (first | exact HR0.out | (with_reducible refine Kd.C_alloc ?_ _) | (with_reducible refine Kd.C_drewN ?_ _) | (with_reducible refine Kd.C_drew ?_))); (case side2 => exact HC0.out); rintro e w' ⟨rfl, ⟨nd, rfl⟩⟩; refine ⟨_, rfl, ?_⟩) | ((with_reducible refine gate_callee (f := 56) rfl ?_); refine goesL_ (some 50) rfl rfl Try.func56 (by kernel_rfl) rfl #[.slice A0 l0.length c0, .int .i64 (wrap64 (a1 + 1)), .int .i64 3] rfl (by (try simp only [List.map_toArray, List.map_cons, List.map_nil]); first | done | rfl | (simp only [List.length_drop, List.length_take]; rfl)) ?_; (with_reducible refine (laws_lwAt.calls _ _ l0 (wrap64 (a1 + 1)) 3 t109 _ ?side1 ?side2 A21.out).mono ?_); (case side1 => repeat (first | exact HR0.out | (with_reducible refine Kd.C_alloc ?_ _) | (with_reducible refine Kd.C_drewN ?_ _) | (with_reducible refine Kd.C_drew ?_))); (case side2 => exact HC0.out); rintro e w' ⟨rfl, ⟨nd, rfl⟩⟩; refine ⟨_, rfl, ?_⟩))
            go_ret
            exact ⟨by first | rfl | (simp; done) | (simp only [← hji18, ← hji20] <;> (first | rfl | simp)) | (simp [*]; done), by repeat (first | exact Drawn0.refl _ | apply Drawn0.step)⟩
        · rw [if_neg c19] at H
          exact absurd H (by simp)
      · rw [if_neg c17] at H
        have c17b0 : (t106 == 2) = false := beq_eq_false_iff_ne.mpr c17
        have c17b1 : (t106 != 2) = true := bne_iff_ne.mpr c17
        have H' := Aside0.mk H
        clear H
        go_enter Try.func57, Try.ntmps57
        go_wp2_with (first | ((with_reducible refine gate_callee (f := 56) rfl ?_); refine goesL_ (some 11) rfl rfl Try.func56 (by kernel_rfl) rfl #[.slice A0 l0.length c0, .int .i64 a1, .int .i64 5] rfl (by (try simp only [List.map_toArray, List.map_cons, List.map_nil]); first | done | rfl | (simp only [List.length_drop, List.length_take]; rfl)) ?_; (with_reducible refine (laws_lwAt.calls _ _ l0 a1 5 t106 _ ?side1 ?side2 A4.out).mono ?_); (case side1 => repeat (first | exact HR0.out | (with_reducible refine Kd.C_alloc ?_ _) | (with_reducible refine Kd.C_drewN ?_ _) | (with_reducible refine Kd.C_drew ?_))); (case side2 => exact HC0.out); rintro e w' ⟨rfl, ⟨nd, rfl⟩⟩; refine ⟨_, rfl, ?_⟩))
        go_loopg [7, 8] k (fun kq v7 v8 w' => ∃ (x7_1 : Int) (x8_1 : Int), v7 = .int .u64 x7_1 ∧ v8 = .int .i64 x8_1 ∧ Aside0 (laws_lwWord.l0 kq l0 a1 a2 x7_1 x8_1 = some r) ∧ Aside0 (kq ≤ k) ∧ Drawn0 w w')
        case atStart => exact ⟨(0), (0), (by first | rfl | (simp; done) | (simp [*]; done)), (by first | rfl | (simp; done) | (simp [*]; done)), H', ⟨Nat.le_refl _⟩, by repeat (first | exact Drawn0.refl _ | apply Drawn0.step)⟩
        case round =>
          clear H'
          try clear c1
          try clear c2
          try clear p2
          try clear c5
          try clear c5b0
          try clear c5b1
          try clear p6
          try clear c7
          try clear c7b0
          try clear c9
          try clear c9b0
          try clear c9b1
          try clear c11
          try clear c11b0
          try clear c11b1
          try clear c13
          try clear c13b0
          try clear c15
          try clear c15b0
          try clear c15b1
          try clear c17
          try clear c17b0
          try clear c17b1
          try clear c19
          try clear c19b0
          try clear c19b1
          try clear c22
          try clear c22b0
          try clear c24
          try clear c24b0
          try clear c24b1
          obtain ⟨x7_1, x8_1, rfl, rfl, HA, HK1, ⟨m1, rfl⟩⟩ := hrel
          cases gk with
          | zero => exact absurd HA.out (by simp [laws_lwWord.l0])
          | succ k1 =>
            have H := HA.out
            clear HA
            simp only [laws_lwWord.l0] at H
            by_cases c26 : x8_1 < 8
            · rw [if_pos c26] at H
              have c26b0 : decide (x8_1 < 8) = true := decide_eq_true c26
              clear c26
              replace H := Option.bind_eq_some_iff.mp H
              obtain ⟨t110, A270, H⟩ := H
              replace H : (laws_lwWord.l0 k1 l0 a1 a2 (Go.bits .or .u64 (IntKind.u64.wrap (x7_1 * 256)) (IntKind.u64.wrap (t110))) (wrap64 (x8_1 + 1))) = some r := H
              have A27 := Aside0.mk A270
              clear A270
              have H' := Aside0.mk H
              clear H
              go_wp2_with (first | ((with_reducible refine gate_callee (f := 56) rfl ?_); refine goesL_ (some 23) rfl rfl Try.func56 (by kernel_rfl) rfl #[.slice A0 l0.length c0, .int .i64 (wrap64 ((wrap64 (a1 + 1)) + x8_1)), .int .i64 256] rfl (by (try simp only [List.map_toArray, List.map_cons, List.map_nil]); first | done | rfl | (simp only [List.length_drop, List.length_take]; rfl)) ?_; (with_reducible refine (laws_lwAt.calls _ _ l0 (wrap64 ((wrap64 (a1 + 1)) + x8_1)) 256 t110 _ ?side1 ?side2 A27.out).mono ?_); (case side1 => repeat (first | exact HR0.out | (with_reducible refine Kd.C_alloc ?_ _) | (with_reducible refine Kd.C_drewN ?_ _) | (with_reducible refine Kd.C_drew ?_))); (case side2 => exact HC0.out); rintro e w' ⟨rfl, ⟨nd, rfl⟩⟩; refine ⟨_, rfl, ?_⟩))
              go_roundg k1
              case measure => have := HK1.out; omega
              case rel => exact ⟨(Go.bits .or .u64 (IntKind.u64.wrap (x7_1 * 256)) (IntKind.u64.wrap (t110))), (wrap64 (x8_1 + 1)), (by first | rfl | (simp; done) | (simp [*]; done)), (by first | rfl | (simp; done) | (simp [*]; done)), H', ⟨by have := HK1.out; omega⟩, by repeat (first | exact Drawn0.refl _ | apply Drawn0.step)⟩
            · rw [if_neg c26] at H
              have c26b0 : decide (x8_1 < 8) = false := decide_eq_false c26
              clear c26
              by_cases c28 : a2 < 64
              · rw [if_pos c28] at H
                have c28b0 : decide (a2 < 64) = true := decide_eq_true c28
                clear c28
                obtain ⟨ji29, hji29⟩ : ∃ j_ : Int, (IntKind.u64.wrap (a2)) = j_ := ⟨_, rfl⟩
                replace H : (if 0 ≤ (ji29) then (some (Go.bits .and .u64 x7_1 (IntKind.u64.wrap ((shl .u64 1 (ji29)) - 1)))) else (none)) = some r := by first | (rw [hji29] at H; exact H) | (simp only [hji29] at H ⊢; exact H)
                by_cases c30 : 0 ≤ (ji29)
                · rw [if_pos c30] at H
                  have c30b0 := eq_true c30
                  have c30b1 : decide (0 ≤ (ji29)) = true := decide_eq_true c30
                  clear c30
                  obtain ⟨ji31, hji31⟩ : ∃ j_ : Int, (shl .u64 1 (ji29)) = j_ := ⟨_, rfl⟩
                  replace H : (some (Go.bits .and .u64 x7_1 (IntKind.u64.wrap ((ji31) - 1)))) = some r := by first | (rw [hji31] at H; exact H) | (simp only [hji31] at H ⊢; exact H)
                  have hji31_ : (IntKind.u64.wrap (1 * 2 ^ min (ji29).toNat 64)) = ji31 := hji31
                  have hji31z : (ji29) ≤ 64 → (IntKind.u64.wrap (1 * 2 ^ (ji29).toNat)) = ji31 := shl_small hji31
                  have hji31u : (IntKind.u64.wrap (2 ^ min (ji29).toNat 64)) = ji31 := by have h_ := hji31_; rw [Int.one_mul] at h_; exact h_
                  have hji31v : (ji29) ≤ 64 → (IntKind.u64.wrap (2 ^ (ji29).toNat)) = ji31 := fun hle_ => by have h_ := hji31z hle_; rw [Int.one_mul] at h_; exact h_
                  obtain rfl := Option.some.inj H
                  go_wp2
                  go_ret
                  exact ⟨by first | rfl | (simp; done) | (simp only [← hji29, ← hji31] <;> (first | rfl | simp)) | (simp [*]; done), by repeat (first | exact Drawn0.refl _ | apply Drawn0.step)⟩
                · rw [if_neg c30] at H
                  exact absurd H (by simp)
              · rw [if_neg c28] at H
                have c28b0 : decide (a2 < 64) = false := decide_eq_false c28
                clear c28
                obtain rfl := Option.some.inj H
                go_wp2
                go_ret
                exact ⟨by first | rfl | (simp; done) | (simp [*]; done), by repeat (first | exact Drawn0.refl _ | apply Drawn0.step)⟩

/-! ### impl_right: function 103 -/
def impl_right.f (k : Nat) (l0_0 : List Int) (a0_1 : Int) : Option (List Int × Int) := (impl_bitsOk.f k l0_0 a0_1).bind fun t113 => (if t113 = true then (if ([] : List Int).length + l0_0.length < 140737488355328 then (some ((([] : List Int) ++ l0_0), a0_1)) else (none)) else (some (([] : List Int), 0)))
theorem impl_right.mono : ∀ a0 a1 k, LeO (impl_right.f k a0 a1) (impl_right.f (k + 1) a0 a1) := by
  intro a0 a1 k
  unfold impl_right.f
  repeat' first
      | (with_reducible exact impl_bitsOk.mono _ _ _)
      | (with_reducible exact LeO.refl _)
      | (with_reducible exact LeO.none _)
      | (with_reducible refine LeO.ite ?_ ?_)
      | (with_reducible refine LeO.bind ?_ (fun _ => ?_))
      | exact impl_bitsOk.mono _ _ _
      | exact LeO.none _
      | refine LeO.ite ?_ ?_
      | refine LeO.bind ?_ (fun _ => ?_)
set_option maxHeartbeats 8000000 in
set_option maxRecDepth 100000 in
theorem impl_right.calls (k : Nat) (A0_0 : Option Addr) (c0_0 : Nat) (l0_0 : List Int) (a0_1 : Int) (r1 : List Int) (r2 : Int) (w : World) (hr0_0 : Kd.C (Kd.int .u8) w A0_0 l0_0.length l0_0) (hc0_0 : l0_0.length ≤ c0_0) (h : impl_right.f k l0_0 a0_1 = some (r1, r2)) :
    Calls Try.prog 103 #[.agg #[.slice A0_0 l0_0.length c0_0, .int .i64 a0_1]] w fun e w' => ∃ v0_ : Value, e = .returned (.agg #[v0_, .int .i64 r2]) ∧ Kd.R (Kd.int .u8) 5 w' w.heap.size (fun _ => True) v0_ r1 ∧ Below w.heap.size w w' := by
  have hu64 := Try.underlying64
  have HR0_0 := Aside0.mk hr0_0
  have HC0_0 := Aside0.mk hc0_0
  clear hr0_0 hc0_0
  have HB := Aside0.mk (Below.refl w.heap.size w)
  have H : ((impl_bitsOk.f k l0_0 a0_1).bind fun t113 => (if t113 = true then (if ([] : List Int).length + l0_0.length < 140737488355328 then (some ((([] : List Int) ++ l0_0), a0_1)) else (none)) else (some (([] : List Int), 0)))) = some (r1, r2) := h
  clear h
  replace H := Option.bind_eq_some_iff.mp H
  obtain ⟨t113, A20, H⟩ := H
  replace H : (if t113 = true then (if ([] : List Int).length + l0_0.length < 140737488355328 then (some ((([] : List Int) ++ l0_0), a0_1)) else (none)) else (some (([] : List Int), 0))) = some (r1, r2) := H
  have A2 := Aside0.mk A20
  clear A20
  by_cases c3 : t113 = true
  · subst c3
    have H1 : (if ([] : List Int).length + l0_0.length < 140737488355328 then (some ((([] : List Int) ++ l0_0), a0_1)) else (none)) = some (r1, r2) := by rw [if_pos rfl] at H; exact H
    clear H
    have H := H1
    clear H1
    by_cases c4 : ([] : List Int).length + l0_0.length < 140737488355328
    · rw [if_pos c4] at H
      have LMc4 := Aside0.mk c4
      clear c4
      obtain ⟨y114, hy114⟩ : ∃ y_ : List Int, y_ = (([] : List Int) ++ l0_0) := ⟨_, rfl⟩
      replace H : (some (y114, a0_1)) = some (r1, r2) := by first | (rw [hy114]; with_reducible exact H) | (have H2_ := (Option.bind_some _ _).symm.trans H; rw [hy114]; with_reducible exact H2_) | (have H2_ := (Option.bind_some _ _).symm.trans H; with_reducible exact H2_) | with_reducible exact H | (rw [hy114]; exact H) | exact H
      have Ny114 := Aside0.mk hy114
      clear hy114
      simp only [Option.some.injEq, Prod.mk.injEq] at H
      obtain ⟨rfl, rfl⟩ := H
      go_enter Try.func103, Try.ntmps103
      try go_wp2_with (first | ((with_reducible refine gate_dst (N := 1) rfl ?_); refine box_event ?hg (N := 1) ?hd (cs := #[.slice A0_0 l0_0.length c0_0, .int .i64 a0_1]) (t := 64) ?hr ?_; (case hd => rfl); (case hg => rfl); (case hr => first | (go_simp; done) | (go_simp; rfl)); intro gb111 hg w5 hbox hb; have n0_ := Aside0.mk (below_step (by repeat (first | (with_reducible first | exact HB.out | apply below_alloc | apply pw_below_drewN | apply below_drew1) | exact HB.out)) hb); have n1_ := Aside0.mk (hbox); have n2_ := Aside0.mk ((by rw [hg]; exact (below_size (by repeat (first | (with_reducible first | exact HB.out | apply below_alloc | apply pw_below_drewN | apply below_drew1) | exact HB.out))) : w.heap.size ≤ gb111)); have n3_ := Aside0.mk ((by rw [hg]; exact (below_size (by repeat (first | (with_reducible first | exact HB.out | apply below_alloc | apply pw_below_drewN | apply below_drew1) | exact HB.out))) : w.heap.size ≤ gb111)); clear HB; have HB := n0_; have BK111 := n1_; have GW111 := n2_; have GE111 := n3_; clear n0_ n1_ n2_ n3_; clear hb hbox hg) | ((with_reducible refine gate_dst (N := 2) rfl ?_); refine box_event ?hg (N := 2) ?hd (cs := #[.slice none 0 0, .int .i64 0]) (t := 64) ?hr ?_; (case hd => rfl); (case hg => rfl); (case hr => first | (go_simp; done) | (go_simp; rfl)); intro gb112 hg w6 hbox hb; have n0_ := Aside0.mk (blk_below (g := gb111) (o := .cells #[.slice A0_0 l0_0.length c0_0, .int .i64 a0_1] 64 (0, 0)) (by (with_reducible repeat (first | refine blk_drewN ?_ _ | refine blk_drew ?_ | refine blk_alloc ?_ _)); exact BK111.out) hb); have n1_ := Aside0.mk (below_step (by repeat (first | (with_reducible first | exact HB.out | apply below_alloc | apply pw_below_drewN | apply below_drew1 | refine below_set ?_ GE111.out) | exact HB.out)) hb); have n2_ := Aside0.mk (hbox); have n3_ := Aside0.mk ((by rw [hg]; exact (below_size (by repeat (first | (with_reducible first | exact HB.out | apply below_alloc | apply pw_below_drewN | apply below_drew1 | refine below_set ?_ GE111.out) | exact HB.out))) : w.heap.size ≤ gb112)); have n4_ := Aside0.mk ((by rw [hg]; exact (below_size (by repeat (first | (with_reducible first | exact HB.out | apply below_alloc | apply pw_below_drewN | apply below_drew1 | refine below_set ?_ GE111.out) | exact HB.out))) : w.heap.size ≤ gb112)); have n5_ := Aside0.mk ((by rw [hg]; exact Nat.ne_of_lt (blk_lt (g := gb111) (o := .cells #[.slice A0_0 l0_0.length c0_0, .int .i64 a0_1] 64 (0, 0)) (by (with_reducible repeat (first | refine blk_drewN ?_ _ | refine blk_drew ?_ | refine blk_alloc ?_ _)); exact BK111.out)) : gb111 ≠ gb112)); have n6_ := Aside0.mk ((by rw [hg]; exact Nat.ne_of_gt (blk_lt (g := gb111) (o := .cells #[.slice A0_0 l0_0.length c0_0, .int .i64 a0_1] 64 (0, 0)) (by (with_reducible repeat (first | refine blk_drewN ?_ _ | refine blk_drew ?_ | refine blk_alloc ?_ _)); exact BK111.out)) : gb112 ≠ gb111)); clear BK111; clear HB; have BK111 := n0_; have HB := n1_; have BK112 := n2_; have GW112 := n3_; have GE112 := n4_; have NB111_112 := n5_; have NB112_111 := n6_; clear n0_ n1_ n2_ n3_ n4_ n5_ n6_; clear hb hbox hg; have hnb7 := NB111_112.out; have hnc7 := NB112_111.out; have hcz8_0 : w6.cell? ⟨gb111, 0, none⟩ = some (.slice A0_0 l0_0.length c0_0) := (blk_cell BK111.out 0).trans rfl; have hcz8_1 : w6.cell? ⟨gb111, 1, none⟩ = some (.int .i64 a0_1) := (blk_cell BK111.out 1).trans rfl; have hfz8_0 := blk_frozen BK111.out 0; have hfz8_1 := blk_frozen BK111.out 1) | ((with_reducible refine gate_callee (f := 85) rfl ?_); refine goesL_ (some 4) rfl rfl Try.func85 (by kernel_rfl) rfl #[.agg #[.slice A0_0 l0_0.length c0_0, .int .i64 a0_1]] rfl (by (try simp only [List.map_toArray, List.map_cons, List.map_nil]); first | done | rfl | (simp only [List.length_drop, List.length_take]; rfl)) ?_; (with_reducible refine (impl_bitsOk.calls k _ _ l0_0 a0_1 true _ ?side1 ?side2 A2.out).mono ?_); (case side1 => repeat (first | exact (Kd.C_below HR0_0.out HB.out) | (with_reducible refine Kd.C_alloc ?_ _) | (with_reducible refine Kd.C_drewN ?_ _) | (with_reducible refine Kd.C_drew ?_))); (case side2 => exact HC0_0.out); rintro e w9 ⟨rfl, hb⟩; refine ⟨_, rfl, ?_⟩; have n0_ := Aside0.mk (blk_below (g := gb111) (o := .cells #[.slice A0_0 l0_0.length c0_0, .int .i64 a0_1] 64 (0, 0)) (by (with_reducible repeat (first | refine blk_drewN ?_ _ | refine blk_drew ?_ | refine blk_alloc ?_ _)); exact BK111.out) hb); have n1_ := Aside0.mk (blk_below (g := gb112) (o := .cells #[.slice none 0 0, .int .i64 0] 64 (0, 0)) (by (with_reducible repeat (first | refine blk_drewN ?_ _ | refine blk_drew ?_ | refine blk_alloc ?_ _)); exact BK112.out) hb); have n2_ := Aside0.mk (below_step (by repeat (first | (with_reducible first | exact HB.out | apply below_alloc | apply pw_below_drewN | apply below_drew1 | refine below_set ?_ GE111.out | refine below_set ?_ GE112.out) | exact HB.out)) hb); clear BK111; clear BK112; clear HB; have BK111 := n0_; have BK112 := n1_; have HB := n2_; clear n0_ n1_ n2_; (try clear hb); (try clear hb2); (try clear hk); (try clear hi)))
      have n0_ := Aside0.mk (blk_drew BK111.out)
      have n1_ := Aside0.mk (blk_drew BK112.out)
      have n2_ := Aside0.mk (below_drew1 HB.out)
      clear BK111
      clear BK112
      clear HB
      have BK111 := n0_
      have BK112 := n1_
      have HB := n2_
      clear n0_ n1_ n2_
      refine start_ (n := 7) (S := fun w' => w'.cell? ⟨gb111, 0, none⟩ = some (.slice A0_0 l0_0.length c0_0) ∧ w'.cell? ⟨gb111, 1, none⟩ = some (.int .i64 a0_1)) (ds := []) #[false, false, false, false, false, false, false] (by kernel_rfl) rfl rfl ⟨(blk_cell BK111.out 0).trans rfl, (blk_cell BK111.out 1).trans rfl⟩ (fun hHeld => ?_)
      generalize w9.drew = w10 at BK111 BK112 HB hHeld ⊢
      refine pure_ (i := 0) (N := some 7) (v := ?_) (a' := ?_) #[true, false, false, false, false, false, false] rfl rfl (by kernel_rfl) (fun _ _ _ h => h) (Or.inl ⟨by rfl, ?_⟩) ?_ ?_
      rotate_left
      · intro w'
        go_simp
        with_reducible rfl
      rotate_left
      · simp only [Act.put, List.setIfInBounds_toArray, List.set_cons_zero, List.set_cons_succ, i64_w, i32_w]
        rfl
      refine pure_ (i := 3) (N := some 10) (v := ?_) (a' := ?_) #[true, false, false, true, false, false, false] rfl rfl (by kernel_rfl) (fun _ _ _ h => h) (Or.inl ⟨by rfl, ?_⟩) ?_ ?_
      rotate_left
      · intro w'
        go_simp
        with_reducible rfl
      rotate_left
      · simp only [Act.put, List.setIfInBounds_toArray, List.set_cons_zero, List.set_cons_succ, i64_w, i32_w]
        rfl
      refine take_ (i := 1) (N := some 8) (v := ?_) (a' := ?_) #[true, true, false, true, false, false, false] rfl rfl (by kernel_rfl) (fun _ _ _ h => h) (Or.inl ⟨by rfl, ?_⟩) hHeld ?_ ?_
      rotate_left
      · rintro w' ⟨s0, s1⟩
        go_simp
        with_reducible rfl
      rotate_left
      · simp only [Act.put, List.setIfInBounds_toArray, List.set_cons_zero, List.set_cons_succ, i64_w, i32_w]
        rfl
      refine take_ (i := 4) (N := some 11) (v := ?_) (a' := ?_) #[true, true, false, true, true, false, false] rfl rfl (by kernel_rfl) (fun _ _ _ h => h) (Or.inl ⟨by rfl, ?_⟩) hHeld ?_ ?_
      rotate_left
      · rintro w' ⟨s0, s1⟩
        go_simp
        with_reducible rfl
      rotate_left
      · simp only [Act.put, List.setIfInBounds_toArray, List.set_cons_zero, List.set_cons_succ, i64_w, i32_w]
        rfl
      refine one_ (i := 2) (N := some 9) #[true, true, true, true, true, false, false] rfl rfl (by kernel_rfl) (by decide) (fun K hK => ?_)
      refine Kd.R_append_rows_step (Kd.int .u8) (w0 := w) w.heap.size rfl (.const (.slice none 0 0)) (.tmp 8) 48 5 (.int .u8 0) 1 rfl Try.underlying48 info5 rfl (by decide) (by omega) (.slice none 0 0) ([] : List Int) l0_0 _ _ _ (fun _ => True) (fun _ => False) rfl rfl ?aO ?aR (fun _ _ h => h) (fun _ h => h.elim) ?aF ?aB ?aS ?aL ?_
      (case aR => repeat (first | exact (Kd.C_below HR0_0.out HB.out) | (with_reducible refine Kd.C_alloc ?_ _) | (with_reducible refine Kd.C_drewN ?_ _) | (with_reducible refine Kd.C_drew ?_)))
      (case aB => exact (by repeat (first | (with_reducible first | exact HB.out | apply below_alloc | apply pw_below_drewN | apply below_drew1 | refine below_set ?_ GE111.out | refine below_set ?_ GE112.out) | exact HB.out)))
      (case aF => exact (fun _ _ => trivial))
      (case aO => exact ((Kd.R_nil _ _ _ _ (fun _ => True))))
      (case aS => exact (below_size (by repeat (first | (with_reducible first | exact HB.out | apply below_alloc | apply pw_below_drewN | apply below_drew1 | refine below_set ?_ GE111.out | refine below_set ?_ GE112.out) | exact HB.out))))
      (case aL => have := LMc4.out; omega)
      intro v115 w11 ho hb hg hat
      rw [← Ny114.out] at ho
      have n0_ := Aside0.mk (blk_grown (g := gb111) (o := .cells #[.slice A0_0 l0_0.length c0_0, .int .i64 a0_1] 64 (0, 0)) (by (with_reducible repeat (first | refine blk_drewN ?_ _ | refine blk_drew ?_ | refine blk_alloc ?_ _)); exact BK111.out) hg (by simp [Value.ownBlock]))
      have n1_ := Aside0.mk (blk_grown (g := gb112) (o := .cells #[.slice none 0 0, .int .i64 0] 64 (0, 0)) (by (with_reducible repeat (first | refine blk_drewN ?_ _ | refine blk_drew ?_ | refine blk_alloc ?_ _)); exact BK112.out) hg (by simp [Value.ownBlock]))
      have n2_ := Aside0.mk (hb)
      have n3_ := Aside0.mk (ho)
      clear BK111
      clear BK112
      clear HB
      have BK111 := n0_
      have BK112 := n1_
      have HB := n2_
      have HO116 := n3_
      clear n0_ n1_ n2_ n3_
      clear ho hb hg hat
      obtain ⟨Ao12, co12, eo12⟩ := Kd.R_slice HO116.out
      (first | subst eo12 | (injection eo12 with f1_ f2_ f3_; have f4_ := f1_.symm; have f5_ := f3_.symm; clear f1_ f2_ f3_; subst f4_; subst f5_))
      refine hK.out _ _ ⟨(blk_cell BK111.out 0).trans rfl, (blk_cell BK111.out 1).trans rfl⟩ (fun hHeld => ?_)
      clear hK K
      refine norm_ (a' := ?_) ?_ ?_
      rotate_left
      · show Act.put _ (some 9) _ = _
        simp only [Act.put, List.setIfInBounds_toArray, List.set_cons_zero, List.set_cons_succ, i64_w, i32_w]
        rfl
      refine pure_ (i := 5) (N := some 12) (v := ?_) (a' := ?_) #[true, true, true, true, true, true, false] rfl rfl (by kernel_rfl) (fun _ _ _ h => h) (Or.inl ⟨by rfl, ?_⟩) ?_ ?_
      rotate_left
      · intro w'
        go_simp
        with_reducible rfl
      rotate_left
      · simp only [Act.put, List.setIfInBounds_toArray, List.set_cons_zero, List.set_cons_succ, i64_w, i32_w]
        rfl
      refine one_ (i := 6) (N := none) #[true, true, true, true, true, true, true] rfl rfl (by kernel_rfl) (by decide) (fun K hK => ?_)
      have hs13 : w11.cell? ⟨gb112, 0, none⟩ = some (.slice none 0 0) := (blk_cell BK112.out 0).trans rfl
      have hfs13 := blk_frozen BK112.out 0
      have hns13_0 := NB111_112.out
      have hms13_0 := NB112_111.out
      have hs14 : w11.cell? ⟨gb112, 1, none⟩ = some (.int .i64 0) := (blk_cell BK112.out 1).trans rfl
      have hfs14 := blk_frozen BK112.out 1
      have hns14_0 := NB111_112.out
      have hms14_0 := NB112_111.out
      refine skip_ (w1 := ?_) (by rfl) rfl ?_ ?_
      rotate_left
      · go_simp
        rfl
      refine hK.out _ _ ⟨((cell_far (p := ⟨gb112, _, none⟩) NB111_112.out _).trans (((cell_far (p := ⟨gb112, _, none⟩) NB111_112.out _).trans (hHeld.1)))), ((cell_far (p := ⟨gb112, _, none⟩) NB111_112.out _).trans (((cell_far (p := ⟨gb112, _, none⟩) NB111_112.out _).trans (hHeld.2))))⟩ (fun hHeld => ?_)
      clear hK K
      refine done_ (by kernel_rfl) ?_
      try go_wp2
      refine bodyPost_ret (results_cell_row rfl _ _ gb112 64 #[.slice Ao12 y114.length co12, .int .i64 a0_1] (0, 0) _ rfl (by (with_reducible repeat (first | refine blk_drewN ?_ _ | refine blk_drew ?_ | refine blk_alloc ?_ _)); refine blk_put (cs := #[.slice Ao12 y114.length co12, .int .i64 0]) ?_ 1 _ rfl; (with_reducible repeat (first | refine blk_drewN ?_ _ | refine blk_drew ?_ | refine blk_alloc ?_ _)); refine blk_put (cs := #[.slice none 0 0, .int .i64 0]) ?_ 0 _ rfl; (with_reducible repeat (first | refine blk_drewN ?_ _ | refine blk_drew ?_ | refine blk_alloc ?_ _)); exact BK112.out) Try.underlying64 rfl (by kernel_rfl)) rfl ?_
      exact ⟨_, by first | rfl | (simp [errW_none, errW_some] <;> rfl) | (simp [*, errW_none, errW_some] <;> rfl), by (with_reducible repeat (first | apply Kd.R_alloc | apply Kd.R_drewN | apply Kd.R_drew)); exact Kd.R_mono (Kd.R_far (p := ⟨gb112, 1, none⟩) (Kd.R_far (p := ⟨gb112, 0, none⟩) (Kd.R_types HO116.out BK112.out (by decide)) (fun _ hk => hk.2) (.slice Ao12 y114.length co12)) (fun _ hk => hk.2) (.int .i64 a0_1)) (fun _ hk => trivial), by repeat (first | (with_reducible first | exact HB.out | apply below_alloc | apply pw_below_drewN | apply below_drew1 | refine below_set ?_ GE111.out | refine below_set ?_ GE112.out) | exact HB.out)⟩
    · rw [if_neg c4] at H
      exact absurd H (by simp)
  · replace c3 := Bool.eq_false_iff.mpr c3
    subst c3
    have H1 : (some (([] : List Int), 0)) = some (r1, r2) := by rw [if_neg (show ¬ (false = true) by decide)] at H; exact H
    clear H
    have H := H1
    clear H1
    simp only [Option.some.injEq, Prod.mk.injEq] at H
    obtain ⟨rfl, rfl⟩ := H
    go_enter Try.func103, Try.ntmps103
    go_wp2_with (first | ((with_reducible refine gate_dst (N := 1) rfl ?_); refine box_event ?hg (N := 1) ?hd (cs := #[.slice A0_0 l0_0.length c0_0, .int .i64 a0_1]) (t := 64) ?hr ?_; (case hd => rfl); (case hg => rfl); (case hr => first | (go_simp; done) | (go_simp; rfl)); intro gb111 hg w15 hbox hb; have n0_ := Aside0.mk (below_step (by repeat (first | (with_reducible first | exact HB.out | apply below_alloc | apply pw_below_drewN | apply below_drew1) | exact HB.out)) hb); have n1_ := Aside0.mk (hbox); have n2_ := Aside0.mk ((by rw [hg]; exact (below_size (by repeat (first | (with_reducible first | exact HB.out | apply below_alloc | apply pw_below_drewN | apply below_drew1) | exact HB.out))) : w.heap.size ≤ gb111)); have n3_ := Aside0.mk ((by rw [hg]; exact (below_size (by repeat (first | (with_reducible first | exact HB.out | apply below_alloc | apply pw_below_drewN | apply below_drew1) | exact HB.out))) : w.heap.size ≤ gb111)); clear HB; have HB := n0_; have BK111 := n1_; have GW111 := n2_; have GE111 := n3_; clear n0_ n1_ n2_ n3_; clear hb hbox hg) | ((with_reducible refine gate_dst (N := 2) rfl ?_); refine box_event ?hg (N := 2) ?hd (cs := #[.slice none 0 0, .int .i64 0]) (t := 64) ?hr ?_; (case hd => rfl); (case hg => rfl); (case hr => first | (go_simp; done) | (go_simp; rfl)); intro gb112 hg w16 hbox hb; have n0_ := Aside0.mk (blk_below (g := gb111) (o := .cells #[.slice A0_0 l0_0.length c0_0, .int .i64 a0_1] 64 (0, 0)) (by (with_reducible repeat (first | refine blk_drewN ?_ _ | refine blk_drew ?_ | refine blk_alloc ?_ _)); exact BK111.out) hb); have n1_ := Aside0.mk (below_step (by repeat (first | (with_reducible first | exact HB.out | apply below_alloc | apply pw_below_drewN | apply below_drew1 | refine below_set ?_ GE111.out) | exact HB.out)) hb); have n2_ := Aside0.mk (hbox); have n3_ := Aside0.mk ((by rw [hg]; exact (below_size (by repeat (first | (with_reducible first | exact HB.out | apply below_alloc | apply pw_below_drewN | apply below_drew1 | refine below_set ?_ GE111.out) | exact HB.out))) : w.heap.size ≤ gb112)); have n4_ := Aside0.mk ((by rw [hg]; exact (below_size (by repeat (first | (with_reducible first | exact HB.out | apply below_alloc | apply pw_below_drewN | apply below_drew1 | refine below_set ?_ GE111.out) | exact HB.out))) : w.heap.size ≤ gb112)); have n5_ := Aside0.mk ((by rw [hg]; exact Nat.ne_of_lt (blk_lt (g := gb111) (o := .cells #[.slice A0_0 l0_0.length c0_0, .int .i64 a0_1] 64 (0, 0)) (by (with_reducible repeat (first | refine blk_drewN ?_ _ | refine blk_drew ?_ | refine blk_alloc ?_ _)); exact BK111.out)) : gb111 ≠ gb112)); have n6_ := Aside0.mk ((by rw [hg]; exact Nat.ne_of_gt (blk_lt (g := gb111) (o := .cells #[.slice A0_0 l0_0.length c0_0, .int .i64 a0_1] 64 (0, 0)) (by (with_reducible repeat (first | refine blk_drewN ?_ _ | refine blk_drew ?_ | refine blk_alloc ?_ _)); exact BK111.out)) : gb112 ≠ gb111)); clear BK111; clear HB; have BK111 := n0_; have HB := n1_; have BK112 := n2_; have GW112 := n3_; have GE112 := n4_; have NB111_112 := n5_; have NB112_111 := n6_; clear n0_ n1_ n2_ n3_ n4_ n5_ n6_; clear hb hbox hg; have hnb17 := NB111_112.out; have hnc17 := NB112_111.out; have hcz18_0 : w16.cell? ⟨gb111, 0, none⟩ = some (.slice A0_0 l0_0.length c0_0) := (blk_cell BK111.out 0).trans rfl; have hcz18_1 : w16.cell? ⟨gb111, 1, none⟩ = some (.int .i64 a0_1) := (blk_cell BK111.out 1).trans rfl; have hfz18_0 := blk_frozen BK111.out 0; have hfz18_1 := blk_frozen BK111.out 1) | ((with_reducible refine gate_callee (f := 85) rfl ?_); refine goesL_ (some 4) rfl rfl Try.func85 (by kernel_rfl) rfl #[.agg #[.slice A0_0 l0_0.length c0_0, .int .i64 a0_1]] rfl (by (try simp only [List.map_toArray, List.map_cons, List.map_nil]); first | done | rfl | (simp only [List.length_drop, List.length_take]; rfl)) ?_; (with_reducible refine (impl_bitsOk.calls k _ _ l0_0 a0_1 false _ ?side1 ?side2 A2.out).mono ?_); (case side1 => repeat (first | exact (Kd.C_below HR0_0.out HB.out) | (with_reducible refine Kd.C_alloc ?_ _) | (with_reducible refine Kd.C_drewN ?_ _) | (with_reducible refine Kd.C_drew ?_))); (case side2 => exact HC0_0.out); rintro e w19 ⟨rfl, hb⟩; refine ⟨_, rfl, ?_⟩; have n0_ := Aside0.mk (blk_below (g := gb111) (o := .cells #[.slice A0_0 l0_0.length c0_0, .int .i64 a0_1] 64 (0, 0)) (by (with_reducible repeat (first | refine blk_drewN ?_ _ | refine blk_drew ?_ | refine blk_alloc ?_ _)); exact BK111.out) hb); have n1_ := Aside0.mk (blk_below (g := gb112) (o := .cells #[.slice none 0 0, .int .i64 0] 64 (0, 0)) (by (with_reducible repeat (first | refine blk_drewN ?_ _ | refine blk_drew ?_ | refine blk_alloc ?_ _)); exact BK112.out) hb); have n2_ := Aside0.mk (below_step (by repeat (first | (with_reducible first | exact HB.out | apply below_alloc | apply pw_below_drewN | apply below_drew1 | refine below_set ?_ GE111.out | refine below_set ?_ GE112.out) | exact HB.out)) hb); clear BK111; clear BK112; clear HB; have BK111 := n0_; have BK112 := n1_; have HB := n2_; clear n0_ n1_ n2_; (try clear hb); (try clear hb2); (try clear hk); (try clear hi); have hcz20_0 : w19.cell? ⟨gb112, 0, none⟩ = some (.slice none 0 0) := (blk_cell BK112.out 0).trans rfl; have hcz20_1 : w19.cell? ⟨gb112, 1, none⟩ = some (.int .i64 0) := (blk_cell BK112.out 1).trans rfl; have hfz20_0 := blk_frozen BK112.out 0; have hfz20_1 := blk_frozen BK112.out 1))
    refine bodyPost_ret (results_cell_row rfl _ _ gb112 64 #[.slice none 0 0, .int .i64 0] (0, 0) _ rfl (by (with_reducible repeat (first | refine blk_drewN ?_ _ | refine blk_drew ?_ | refine blk_alloc ?_ _)); refine blk_put (cs := #[.slice none 0 0, .int .i64 0]) ?_ 1 _ rfl; (with_reducible repeat (first | refine blk_drewN ?_ _ | refine blk_drew ?_ | refine blk_alloc ?_ _)); refine blk_put (cs := #[.slice none 0 0, .int .i64 0]) ?_ 0 _ rfl; (with_reducible repeat (first | refine blk_drewN ?_ _ | refine blk_drew ?_ | refine blk_alloc ?_ _)); exact BK112.out) Try.underlying64 rfl (by kernel_rfl)) rfl ?_
    exact ⟨_, by first | rfl | (simp [errW_none, errW_some] <;> rfl) | (simp [*, errW_none, errW_some] <;> rfl), by first | exact Kd.R_nil _ _ _ _ _ | exact Kd.N_nil _ _ _ _ _ | exact Kd.V_nil _ _ _ _ _ | exact Kd.Q_nil _ _ _ _ _ | exact Kd.S_nil _ _ _ _ _, by repeat (first | (with_reducible first | exact HB.out | apply below_alloc | apply pw_below_drewN | apply below_drew1 | refine below_set ?_ GE111.out | refine below_set ?_ GE112.out) | exact HB.out)⟩

/-! ### impl_fits: function 104 -/
def impl_fits.f (a0 : Int) (a1 : Int) : Option (Bool) := if a1 ≥ 1 then (if a1 ≤ 64 then (if a1 = 64 then (some true) else (if 0 ≤ a1 then (some ((shr .u64 a0 a1) == 0)) else (none))) else (some false)) else (some false)
set_option maxHeartbeats 8000000 in
set_option maxRecDepth 100000 in
theorem impl_fits.calls (a0 : Int) (a1 : Int) (r : Bool) (w : World) (h : impl_fits.f a0 a1 = some r) :
    Calls Try.prog 104 #[.int .u64 a0, .int .i64 a1] w fun e w' => e = .returned (.bool r) ∧ Drawn0 w w' := by
  have H : (if a1 ≥ 1 then (if a1 ≤ 64 then (if a1 = 64 then (some true) else (if 0 ≤ a1 then (some ((shr .u64 a0 a1) == 0)) else (none))) else (some false)) else (some false)) = some r := h
  clear h
  by_cases c3 : a1 ≥ 1
  · rw [if_pos c3] at H
    have c3b0 : decide (1 ≤ a1) = true := decide_eq_true c3
    clear c3
    by_cases c4 : a1 ≤ 64
    · rw [if_pos c4] at H
      have c4b0 : decide (a1 ≤ 64) = true := decide_eq_true c4
      clear c4
      by_cases c5 : a1 = 64
      · rw [if_pos c5] at H
        have c5b0 : (a1 == 64) = true := beq_iff_eq.mpr c5
        have c5b1 : (a1 != 64) = false := bne_eq_false_iff_eq.mpr c5
        clear c5
        obtain rfl := Option.some.inj H
        go_enter Try.func104, Try.ntmps104
        go_wp2
        go_ret
        exact ⟨by first | rfl | (simp; done) | (simp [*]; done), by repeat (first | exact Drawn0.refl _ | apply Drawn0.step)⟩
      · rw [if_neg c5] at H
        have c5b0 : (a1 == 64) = false := beq_eq_false_iff_ne.mpr c5
        have c5b1 : (a1 != 64) = true := bne_iff_ne.mpr c5
        by_cases c6 : 0 ≤ a1
        · rw [if_pos c6] at H
          have c6b0 := eq_true c6
          have c6b1 : decide (0 ≤ a1) = true := decide_eq_true c6
          clear c6
          obtain ⟨ji7, hji7⟩ : ∃ j_ : Int, (shr .u64 a0 a1) = j_ := ⟨_, rfl⟩
          replace H : (some ((ji7) == 0)) = some r := by first | (rw [hji7] at H; exact H) | (simp only [hji7] at H ⊢; exact H)
          have hji7_ : (a0 / 2 ^ min a1.toNat 64) = ji7 := hji7
          have hji7z : a1 ≤ 64 → (a0 / 2 ^ a1.toNat) = ji7 := shr_small hji7
          obtain rfl := Option.some.inj H
          go_enter Try.func104, Try.ntmps104
          go_wp2
          go_ret
          exact ⟨by first | rfl | (simp; done) | (simp only [← hji7] <;> (first | rfl | simp)) | (simp [*]; done), by repeat (first | exact Drawn0.refl _ | apply Drawn0.step)⟩
        · rw [if_neg c6] at H
          exact absurd H (by simp)
    · rw [if_neg c4] at H
      have c4b0 : decide (a1 ≤ 64) = false := decide_eq_false c4
      clear c4
      obtain rfl := Option.some.inj H
      go_enter Try.func104, Try.ntmps104
      go_wp2
      go_ret
      exact ⟨by first | rfl | (simp; done) | (simp [*]; done), by repeat (first | exact Drawn0.refl _ | apply Drawn0.step)⟩
  · rw [if_neg c3] at H
    have c3b0 : decide (1 ≤ a1) = false := decide_eq_false c3
    clear c3
    obtain rfl := Option.some.inj H
    go_enter Try.func104, Try.ntmps104
    go_wp2
    go_ret
    exact ⟨by first | rfl | (simp; done) | (simp [*]; done), by repeat (first | exact Drawn0.refl _ | apply Drawn0.step)⟩

/-! ### impl_Bits_put: function 105, by hand -/
def impl_Bits_put.at_ (l : List Int) (c a1 i : Int) : Option (List Int) :=
  if 0 ≤ wrap64 (Int.tdiv c 8) then (if wrap64 (Int.tdiv c 8) < (l.length : Int) then (if 0 ≤ i then (if 0 ≤ Int.tmod c 8 then
    some (l.set (wrap64 (Int.tdiv c 8)).toNat (Go.bits .or .u8 (rd l (wrap64 (Int.tdiv c 8))) (Go.bits .and .u64 (shr .u64 a1 i) 1 % 256 * 2 ^ (Int.tmod c 8).toNat % 256)))
    else none) else none) else none) else none
theorem impl_Bits_put.at_of {l : List Int} {c a1 i : Int} {m : List Int} (h : impl_Bits_put.at_ l c a1 i = some m) : 0 ≤ wrap64 (Int.tdiv c 8) ∧ wrap64 (Int.tdiv c 8) < (l.length : Int) ∧ 0 ≤ i ∧ 0 ≤ Int.tmod c 8 ∧
    m = l.set (wrap64 (Int.tdiv c 8)).toNat (Go.bits .or .u8 (rd l (wrap64 (Int.tdiv c 8))) (Go.bits .and .u64 (shr .u64 a1 i) 1 % 256 * 2 ^ (Int.tmod c 8).toNat % 256)) := by
  unfold impl_Bits_put.at_ at h
  by_cases q1 : 0 ≤ wrap64 (Int.tdiv c 8)
  · rw [if_pos q1] at h
    by_cases q2 : wrap64 (Int.tdiv c 8) < (l.length : Int)
    · rw [if_pos q2] at h
      by_cases q3 : 0 ≤ i
      · rw [if_pos q3] at h
        by_cases q4 : 0 ≤ Int.tmod c 8
        · rw [if_pos q4] at h
          exact ⟨q1, q2, q3, q4, (Option.some.inj h).symm⟩
        · rw [if_neg q4] at h
          cases h
      · rw [if_neg q3] at h
        cases h
    · rw [if_neg q2] at h
      cases h
  · rw [if_neg q1] at h
    cases h
def impl_Bits_put.l0 : Nat → Int → Int → Int → List Int → Int → Option (List Int × Int)
  | 0, _, _, _, _, _ => none
  | k + 1, a1, n, i, l, c => if i < n then (if Int.tmod c 8 = 0 then (if l.length < 140737488355328 then (impl_Bits_put.at_ (l ++ [0]) c a1 i).bind fun m => impl_Bits_put.l0 k a1 n (wrap64 (i + 1)) m (wrap64 (c + 1)) else none) else (impl_Bits_put.at_ l c a1 i).bind fun m => impl_Bits_put.l0 k a1 n (wrap64 (i + 1)) m (wrap64 (c + 1))) else some (l, c)
def impl_Bits_put.f (k : Nat) (l : List Int) (c a1 a2 : Int) : Option (List Int × Int) := impl_Bits_put.l0 k a1 a2 0 l c
theorem impl_Bits_put.mono_l : ∀ k, ∀ y0 y1 y2 y3 y4, LeO (impl_Bits_put.l0 k y0 y1 y2 y3 y4) (impl_Bits_put.l0 (k + 1) y0 y1 y2 y3 y4)
  | 0 => fun _ _ _ _ _ r h => by simp [impl_Bits_put.l0] at h
  | k + 1 => fun y0 y1 y2 y3 y4 => by
    have ih0 := impl_Bits_put.mono_l k
    unfold impl_Bits_put.l0
    exact LeO.ite (LeO.ite (LeO.ite (LeO.bind (LeO.refl _) (fun _ => ih0 _ _ _ _ _)) (LeO.none _)) (LeO.bind (LeO.refl _) (fun _ => ih0 _ _ _ _ _))) (LeO.refl _)
theorem impl_Bits_put.mono : ∀ a0 a1 a2 a3 k, LeO (impl_Bits_put.f k a0 a1 a2 a3) (impl_Bits_put.f (k + 1) a0 a1 a2 a3) := fun a0 a1 a2 a3 k => impl_Bits_put.mono_l k _ _ _ _ _
set_option maxHeartbeats 8000000 in
set_option maxRecDepth 100000 in
theorem impl_Bits_put.calls (k : Nat) (g : Nat) (u : Value) (l : List Int) (c a1 a2 : Int) (r1 : List Int) (r2 : Int) (w0 w : World) (P : Nat → Prop) (hB : Below w0.heap.size w0 w) (hg : w0.heap.size ≤ g)
    (hb : w.heap[g]? = some (.cells #[u, .int .i64 c] 64 (0, 0))) (ho : Kd.R (Kd.int .u8) 5 w w0.heap.size P u l) (h : impl_Bits_put.f k l c a1 a2 = some (r1, r2)) :
    Calls Try.prog 105 #[.pointer (some ⟨g, 0, none⟩), .int .u64 a1, .int .i64 a2] w fun e w' => e = .returned (.tuple #[]) ∧ (∃ u', w'.heap[g]? = some (.cells #[u', .int .i64 r2] 64 (0, 0)) ∧ Kd.R (Kd.int .u8) 5 w' w0.heap.size (fun k_ => P k_ ∨ w.heap.size ≤ k_) u' r1) ∧ Below w0.heap.size w0 w' ∧ Kept w w' (fun k_ => P k_ ∨ k_ = g) := by
  have hu64 := Try.underlying64
  have HG := Aside0.mk hg
  have BK := Aside0.mk hb
  have HO := Aside0.mk (show Kd.R (Kd.int .u8) 5 w w0.heap.size (fun k_ => P k_ ∨ w.heap.size ≤ k_) u l from Kd.R_mono ho (fun _ hk => .inl hk))
  have HK := Aside0.mk (Kept.refl w (fun k_ => P k_ ∨ k_ = g))
  have HB := Aside0.mk hB
  have H : impl_Bits_put.l0 k a1 a2 0 l c = some (r1, r2) := h
  have H' := Aside0.mk H
  clear hg hb ho hB h H
  go_enter Try.func105, Try.ntmps105
  go_wp2
  go_loopg [8] k (fun kq v8 w' => ∃ (i : Int) (u : Value) (l : List Int) (c : Int), v8 = .int .i64 i ∧ Aside0 (impl_Bits_put.l0 kq a1 a2 i l c = some (r1, r2)) ∧ Aside0 (kq ≤ k) ∧ Aside0 (w'.heap[g]? = some (.cells #[u, .int .i64 c] 64 (0, 0))) ∧ Aside0 (Kd.R (Kd.int .u8) 5 w' w0.heap.size (fun k_ => P k_ ∨ w.heap.size ≤ k_) u l) ∧ Aside0 (Below w0.heap.size w0 w') ∧ Aside0 (Kept w w' (fun k_ => P k_ ∨ k_ = g)))
  case atStart => exact ⟨0, u, l, c, rfl, H', ⟨Nat.le_refl _⟩, BK, HO, HB, HK⟩
  case round =>
    clear H' BK HO HB HK
    obtain ⟨i, u, l, c, rfl, HA, HK1, BK, HO, HB, HK⟩ := hrel
    cases gk with
    | zero => exact absurd HA.out (by simp [impl_Bits_put.l0])
    | succ k1 =>
      have H := HA.out
      clear HA
      simp only [impl_Bits_put.l0] at H
      by_cases c4 : i < a2
      · rw [if_pos c4] at H
        have c4b0 : decide (i < a2) = true := decide_eq_true c4
        clear c4
        by_cases c5 : Int.tmod c 8 = 0
        · rw [if_pos c5] at H
          have c5b0 : (Int.tmod c 8 == 0) = true := beq_iff_eq.mpr c5
          clear c5
          by_cases c6 : l.length < 140737488355328
          · rw [if_pos c6] at H
            have LM := Aside0.mk c6
            clear c6
            obtain ⟨m, A1, H⟩ := Option.bind_eq_some_iff.mp H
            have H' := Aside0.mk H
            clear H
            obtain ⟨y, hy⟩ : ∃ y_ : List Int, y_ = (l ++ [0]) := ⟨_, rfl⟩
            rw [← hy] at A1
            have Ny := Aside0.mk hy
            clear hy
            replace A1 := Aside0.mk A1
            obtain ⟨Ao, co, eo⟩ := Kd.R_slice HO.out
            subst eo
            have h0 : wr.cell? ⟨g, 0, none⟩ = some (.slice Ao l.length co) := (blk_cell BK.out 0).trans rfl
            have h1 : wr.cell? ⟨g, 1, none⟩ = some (.int .i64 c) := (blk_cell BK.out 1).trans rfl
            have hf0 := blk_frozen BK.out 0
            have hf1 := blk_frozen BK.out 1
            go_wp2_with (first | ((with_reducible refine gate_builtin (b := .append) (xs := #[.tmp 21, .tmp 22]) rfl ?_); at_builtin; refine Kd.R_append (Kd.int .u8) (w0 := w0) w0.heap.size rfl (.tmp 21) (.tmp 22) 48 5 (.int .u8 0) 1 rfl Try.underlying48 info5 rfl (by decide) (by omega) (.slice Ao l.length co) l 0 [.int .u8 0] (fun k_ => P k_ ∨ w.heap.size ≤ k_) (fun _ => False) rfl rfl ?aP (fun _ hk => hk.elim) ?aF ?aO ?aB ?aS ?aL ?_; (case aP => exact rfl); (case aB => exact HB.out); (case aF => exact (fun k_ hk => .inr (Nat.le_trans HK.out.1 hk))); (case aO => exact HO.out); (case aS => exact (below_size HB.out)); (case aL => have := LM.out; omega); intro v1 w1 ho hb hg1 hat; rw [← Ny.out] at ho; have n0_ := Aside0.mk (blk_grown (g := g) (o := .cells #[.slice Ao l.length co, .int .i64 c] 64 (0, 0)) BK.out hg1 (Kd.R_ne HO.out BK.out (by decide))); have n2_ := Aside0.mk (hb); have n4_ := Aside0.mk (ho); have n5_ := Aside0.mk (Kept.of_grown hg1 HK.out (fun k_ e_ => (HO.out.1 k_ e_).elim (fun h_ => .inl (.inl h_)) .inr)); clear HK; have HK := n5_; clear n5_; clear BK; clear HB; clear HO h0 h1 hf0 hf1; have BK := n0_; have HB := n2_; have HO := n4_; clear n0_ n2_ n4_; clear ho hb hg1 hat; obtain ⟨Ao1, co1, eo1⟩ := Kd.R_slice HO.out; subst eo1; have h0 : w1.cell? ⟨g, 0, none⟩ = some (.slice Ao l.length co) := (blk_cell BK.out 0).trans rfl; have h1 : w1.cell? ⟨g, 1, none⟩ = some (.int .i64 c) := (blk_cell BK.out 1).trans rfl; have hf0 := blk_frozen BK.out 0; have hf1 := blk_frozen BK.out 1))
            have n0_ : Aside0 (Kd.R (Kd.int .u8) 5 (w1.setCell ⟨g, 0, none⟩ (.slice Ao1 y.length co1)) w0.heap.size (fun k_ => P k_ ∨ w.heap.size ≤ k_) (.slice Ao1 y.length co1) y) := ⟨Kd.R_mono (Kd.R_far (p := ⟨g, 0, none⟩) (Kd.R_types HO.out BK.out (by decide)) (fun _ hk => hk.2) (.slice Ao1 y.length co1)) (fun _ hk => hk.1)⟩
            have n1_ : Aside0 ((w1.setCell ⟨g, 0, none⟩ (.slice Ao1 y.length co1)).heap[g]? = some (.cells #[.slice Ao1 y.length co1, .int .i64 c] 64 (0, 0))) := ⟨blk_put (cs := #[.slice Ao l.length co, .int .i64 c]) BK.out 0 _ rfl⟩
            have n2_ : Aside0 (Below w0.heap.size w0 (w1.setCell ⟨g, 0, none⟩ (.slice Ao1 y.length co1))) := ⟨below_set HB.out HG.out⟩
            have n3_ : Aside0 (Kept w (w1.setCell ⟨g, 0, none⟩ (.slice Ao1 y.length co1)) (fun k_ => P k_ ∨ k_ = g)) := ⟨Kept.setCell HK.out (.inl (.inr rfl)) _⟩
            clear BK HO HB HK h0 h1 hf0 hf1
            generalize (w1.setCell ⟨g, 0, none⟩ (.slice Ao1 y.length co1)) = w2 at n0_ n1_ n2_ n3_ ⊢
            have HK := n3_
            clear n3_
            have HO := n0_
            have BK := n1_
            have HB := n2_
            clear n0_ n1_ n2_
            obtain ⟨q1, q2, q3, q4, hm⟩ := impl_Bits_put.at_of A1.out
            clear A1
            obtain ⟨j, hj⟩ : ∃ j_ : Int, wrap64 (Int.tdiv c 8) = j_ := ⟨_, rfl⟩
            rw [hj] at q1 q2 hm
            obtain ⟨j2, hj2⟩ : ∃ j_ : Int, Int.tmod c 8 = j_ := ⟨_, rfl⟩
            have hmin : min j2.toNat 8 = j2.toNat := by have := Int.tmod_lt_of_pos c (show (0 : Int) < 8 by decide); omega
            rw [hj2] at q4 hm
            obtain ⟨j3, hj3⟩ : ∃ j_ : Int, shr .u64 a1 i = j_ := ⟨_, rfl⟩
            rw [hj3] at hm
            have Nm := Aside0.mk hm
            clear hm
            have hjw : (IntKind.i64.wrap (Int.tdiv c 8)) = j := (i64_w _).trans hj
            have hj3_ : (a1 / 2 ^ min i.toNat 64) = j3 := hj3
            have hj3z : i ≤ 64 → (a1 / 2 ^ i.toNat) = j3 := shr_small hj3
            have hqn : 0 < y.length := by omega
            obtain ⟨go, co', eo, gb, gl, cl, HGo⟩ := Kd.R_form HO.out hqn
            cases eo
            obtain ⟨hx, hf⟩ := Kd.R_celln 0 HO.out j q1 q2
            have HP := Aside0.mk (Kd.R_putn HO.out j (Go.bits .or .u8 (rd y j) (Go.bits .and .u64 j3 1 % 256 * 2 ^ j2.toNat % 256)))
            have h0 : w2.cell? ⟨g, 0, none⟩ = some (.slice (some ⟨go, 0, none⟩) y.length co1) := (blk_cell BK.out 0).trans rfl
            have h1 : w2.cell? ⟨g, 1, none⟩ = some (.int .i64 c) := (blk_cell BK.out 1).trans rfl
            have q1b : decide (0 ≤ j) = true := decide_eq_true q1
            have q2b : decide (j < (y.length : Int)) = true := decide_eq_true q2
            have q3b : decide (0 ≤ i) = true := decide_eq_true q3
            have q4b : decide (0 ≤ j2) = true := decide_eq_true q4
            replace q1 := eq_true q1
            replace q2 := eq_true q2
            replace q3 := eq_true q3
            replace q4 := eq_true q4
            have HG1 := Aside0.mk gl
            skip
            have HG3 := Aside0.mk HGo
            clear hqn gl HGo hj hj3
            go_still_tail 23, (by kernel_rfl)
            change wpList _ _ _ _ _ w2.drew
            have n0_ := Aside0.mk (blk_drew BK.out)
            have n1_ : Aside0 (Kd.R (Kd.int .u8) 5 (w2.drew.setCell ⟨go, j.toNat, none⟩ (.int .u8 (Go.bits .or .u8 (rd y j) (Go.bits .and .u64 j3 1 % 256 * 2 ^ j2.toNat % 256)))) w0.heap.size (fun k_ => P k_ ∨ w.heap.size ≤ k_) (.slice (some ⟨go, 0, none⟩) y.length co1) (y.set j.toNat (Go.bits .or .u8 (rd y j) (Go.bits .and .u64 j3 1 % 256 * 2 ^ j2.toNat % 256)))) := ⟨Kd.R_putn (Kd.R_drew HO.out) j _⟩
            have n2_ := Aside0.mk (below_drew1 HB.out)
            have hx1 : w2.drew.cell? ⟨go, j.toNat, none⟩ = some (.int .u8 (rd y j)) := hx
            have hf1 : w2.drew.frozen? ⟨go, j.toNat, none⟩ = false := hf
            have hne : g ≠ go := blk_ne BK.out HG3.out (by decide)
            have n3_ := Aside0.mk (Kept.drew HK.out)
            have hgo := Aside0.mk (HO.out.1 go rfl)
            clear BK HO HB HP HK h0 h1 hx hf HG1 HG3
            generalize w2.drew = w3 at n0_ n1_ n2_ n3_ hx1 hf1 ⊢
            have HK := n3_
            clear n3_
            have HNE := Aside0.mk hne
            clear hne
            have BK := n0_
            have HP := n1_
            have HB := n2_
            clear n0_ n1_ n2_
            have h1 : ∀ v : Value, (w3.setCell ⟨go, j.toNat, none⟩ v).cell? ⟨g, 1, none⟩ = some (.int .i64 c) := fun v => (blk_cell (blk_far BK.out HNE.out v) 1).trans rfl
            have hf2 : ∀ v : Value, (w3.setCell ⟨go, j.toNat, none⟩ v).frozen? ⟨g, 1, none⟩ = false := fun v => blk_frozen (blk_far BK.out (p := ⟨go, j.toNat, none⟩) HNE.out v) 1
            go_wp2
            go_roundg k1
            case measure => have := HK1.out; omega
            case rel => exact ⟨wrap64 (i + 1), .slice (some ⟨go, 0, none⟩) y.length co1, m, wrap64 (c + 1), rfl, H', ⟨by have := HK1.out; omega⟩, ⟨blk_put (cs := #[.slice (some ⟨go, 0, none⟩) y.length co1, .int .i64 c]) (blk_far BK.out HNE.out _) 1 _ rfl⟩, ⟨by rw [Nm.out]; exact Kd.R_mono (Kd.R_far (p := ⟨g, 1, none⟩) (Kd.R_types HP.out (blk_far BK.out HNE.out _) (by decide)) (fun _ hk => hk.2) _) (fun _ hk => hk.1)⟩, ⟨below_set (below_set HB.out gb) HG.out⟩, ⟨Kept.setCell (Kept.setCell HK.out (hgo.out.elim (fun h_ => .inl (.inl h_)) .inr) _) (.inl (.inr rfl)) _⟩⟩
          · rw [if_neg c6] at H
            exact absurd H (by simp)
        · rw [if_neg c5] at H
          have c5b0 : (Int.tmod c 8 == 0) = false := beq_eq_false_iff_ne.mpr c5
          clear c5
          obtain ⟨m, A1, H⟩ := Option.bind_eq_some_iff.mp H
          have H' := Aside0.mk H
          clear H
          replace A1 := Aside0.mk A1
          obtain ⟨Ao, co, eo⟩ := Kd.R_slice HO.out
          subst eo
          have h0 : wr.cell? ⟨g, 0, none⟩ = some (.slice Ao l.length co) := (blk_cell BK.out 0).trans rfl
          have h1 : wr.cell? ⟨g, 1, none⟩ = some (.int .i64 c) := (blk_cell BK.out 1).trans rfl
          go_wp2
          clear h0 h1
          obtain ⟨q1, q2, q3, q4, hm⟩ := impl_Bits_put.at_of A1.out
          clear A1
          obtain ⟨j, hj⟩ : ∃ j_ : Int, wrap64 (Int.tdiv c 8) = j_ := ⟨_, rfl⟩
          rw [hj] at q1 q2 hm
          obtain ⟨j2, hj2⟩ : ∃ j_ : Int, Int.tmod c 8 = j_ := ⟨_, rfl⟩
          have hmin : min j2.toNat 8 = j2.toNat := by have := Int.tmod_lt_of_pos c (show (0 : Int) < 8 by decide); omega
          rw [hj2] at q4 hm
          obtain ⟨j3, hj3⟩ : ∃ j_ : Int, shr .u64 a1 i = j_ := ⟨_, rfl⟩
          rw [hj3] at hm
          have Nm := Aside0.mk hm
          clear hm
          have hjw : (IntKind.i64.wrap (Int.tdiv c 8)) = j := (i64_w _).trans hj
          have hj3_ : (a1 / 2 ^ min i.toNat 64) = j3 := hj3
          have hj3z : i ≤ 64 → (a1 / 2 ^ i.toNat) = j3 := shr_small hj3
          have hqn : 0 < l.length := by omega
          obtain ⟨go, co', eo, gb, gl, cl, HGo⟩ := Kd.R_form HO.out hqn
          cases eo
          obtain ⟨hx, hf⟩ := Kd.R_celln 0 HO.out j q1 q2
          have HP := Aside0.mk (Kd.R_putn HO.out j (Go.bits .or .u8 (rd l j) (Go.bits .and .u64 j3 1 % 256 * 2 ^ j2.toNat % 256)))
          have h0 : wr.cell? ⟨g, 0, none⟩ = some (.slice (some ⟨go, 0, none⟩) l.length co) := (blk_cell BK.out 0).trans rfl
          have h1 : wr.cell? ⟨g, 1, none⟩ = some (.int .i64 c) := (blk_cell BK.out 1).trans rfl
          have q1b : decide (0 ≤ j) = true := decide_eq_true q1
          have q2b : decide (j < (l.length : Int)) = true := decide_eq_true q2
          have q3b : decide (0 ≤ i) = true := decide_eq_true q3
          have q4b : decide (0 ≤ j2) = true := decide_eq_true q4
          replace q1 := eq_true q1
          replace q2 := eq_true q2
          replace q3 := eq_true q3
          replace q4 := eq_true q4
          have HG1 := Aside0.mk gl
          skip
          have HG3 := Aside0.mk HGo
          clear hqn gl HGo hj hj3
          go_still_tail 23, (by kernel_rfl)
          change wpList _ _ _ _ _ wr.drew
          have n0_ := Aside0.mk (blk_drew BK.out)
          have n1_ : Aside0 (Kd.R (Kd.int .u8) 5 (wr.drew.setCell ⟨go, j.toNat, none⟩ (.int .u8 (Go.bits .or .u8 (rd l j) (Go.bits .and .u64 j3 1 % 256 * 2 ^ j2.toNat % 256)))) w0.heap.size (fun k_ => P k_ ∨ w.heap.size ≤ k_) (.slice (some ⟨go, 0, none⟩) l.length co) (l.set j.toNat (Go.bits .or .u8 (rd l j) (Go.bits .and .u64 j3 1 % 256 * 2 ^ j2.toNat % 256)))) := ⟨Kd.R_putn (Kd.R_drew HO.out) j _⟩
          have n2_ := Aside0.mk (below_drew1 HB.out)
          have hx1 : wr.drew.cell? ⟨go, j.toNat, none⟩ = some (.int .u8 (rd l j)) := hx
          have hf1 : wr.drew.frozen? ⟨go, j.toNat, none⟩ = false := hf
          have hne : g ≠ go := blk_ne BK.out HG3.out (by decide)
          have n3_ := Aside0.mk (Kept.drew HK.out)
          have hgo := Aside0.mk (HO.out.1 go rfl)
          clear BK HO HB HP HK h0 h1 hx hf HG1 HG3
          generalize wr.drew = w3 at n0_ n1_ n2_ n3_ hx1 hf1 ⊢
          have HK := n3_
          clear n3_
          have HNE := Aside0.mk hne
          clear hne
          have BK := n0_
          have HP := n1_
          have HB := n2_
          clear n0_ n1_ n2_
          have h1 : ∀ v : Value, (w3.setCell ⟨go, j.toNat, none⟩ v).cell? ⟨g, 1, none⟩ = some (.int .i64 c) := fun v => (blk_cell (blk_far BK.out HNE.out v) 1).trans rfl
          have hf2 : ∀ v : Value, (w3.setCell ⟨go, j.toNat, none⟩ v).frozen? ⟨g, 1, none⟩ = false := fun v => blk_frozen (blk_far BK.out (p := ⟨go, j.toNat, none⟩) HNE.out v) 1
          go_wp2
          go_roundg k1
          case measure => have := HK1.out; omega
          case rel => exact ⟨wrap64 (i + 1), .slice (some ⟨go, 0, none⟩) l.length co, m, wrap64 (c + 1), rfl, H', ⟨by have := HK1.out; omega⟩, ⟨blk_put (cs := #[.slice (some ⟨go, 0, none⟩) l.length co, .int .i64 c]) (blk_far BK.out HNE.out _) 1 _ rfl⟩, ⟨by rw [Nm.out]; exact Kd.R_mono (Kd.R_far (p := ⟨g, 1, none⟩) (Kd.R_types HP.out (blk_far BK.out HNE.out _) (by decide)) (fun _ hk => hk.2) _) (fun _ hk => hk.1)⟩, ⟨below_set (below_set HB.out gb) HG.out⟩, ⟨Kept.setCell (Kept.setCell HK.out (hgo.out.elim (fun h_ => .inl (.inl h_)) .inr) _) (.inl (.inr rfl)) _⟩⟩
      · rw [if_neg c4] at H
        have c4b0 : decide (i < a2) = false := decide_eq_false c4
        clear c4
        simp only [Option.some.injEq, Prod.mk.injEq] at H
        obtain ⟨rfl, rfl⟩ := H
        go_wp2
        go_end0
        exact ⟨rfl, ⟨u, BK.out, HO.out⟩, HB.out, HK.out⟩

/-! ### impl_PutBits: function 58, by hand -/
def impl_PutBits.f (k : Nat) (l0_0 : List Int) (a0_1 : Int) (a1 : Int) (a2 : Int) : Option (List Int × Int) := (impl_right.f k l0_0 a0_1).bind fun t => (impl_fits.f a1 a2).bind fun b => if b = true then impl_Bits_put.f k t.1 t.2 a1 a2 else some t
theorem impl_PutBits.mono : ∀ a0 a1 a2 a3 k, LeO (impl_PutBits.f k a0 a1 a2 a3) (impl_PutBits.f (k + 1) a0 a1 a2 a3) := by
  intro a0 a1 a2 a3 k
  unfold impl_PutBits.f
  refine LeO.bind (impl_right.mono _ _ _) (fun _ => LeO.bind (LeO.refl _) (fun _ => LeO.ite (impl_Bits_put.mono _ _ _ _ _) (LeO.refl _)))
set_option maxHeartbeats 8000000 in
set_option maxRecDepth 100000 in
theorem impl_PutBits.calls (k : Nat) (A0_0 : Option Addr) (c0_0 : Nat) (l0_0 : List Int) (a0_1 : Int) (a1 : Int) (a2 : Int) (r1 : List Int) (r2 : Int) (w : World) (hr0_0 : Kd.C (Kd.int .u8) w A0_0 l0_0.length l0_0) (hc0_0 : l0_0.length ≤ c0_0) (h : impl_PutBits.f k l0_0 a0_1 a1 a2 = some (r1, r2)) :
    Calls Try.prog 58 #[.agg #[.slice A0_0 l0_0.length c0_0, .int .i64 a0_1], .int .u64 a1, .int .i64 a2] w fun e w' => ∃ v0_ : Value, e = .returned (.agg #[v0_, .int .i64 r2]) ∧ Kd.R (Kd.int .u8) 5 w' w.heap.size (fun _ => True) v0_ r1 ∧ Below w.heap.size w w' := by
  have hu64 := Try.underlying64
  have HR := Aside0.mk hr0_0
  have HC := Aside0.mk hc0_0
  clear hr0_0 hc0_0
  have HB := Aside0.mk (Below.refl w.heap.size w)
  have H : ((impl_right.f k l0_0 a0_1).bind fun t => (impl_fits.f a1 a2).bind fun b => if b = true then impl_Bits_put.f k t.1 t.2 a1 a2 else some t) = some (r1, r2) := h
  clear h
  obtain ⟨⟨t1, t2⟩, A70, H⟩ := Option.bind_eq_some_iff.mp H
  have A7 := Aside0.mk A70
  clear A70
  obtain ⟨b, A80, H⟩ := Option.bind_eq_some_iff.mp H
  have A8 := Aside0.mk A80
  clear A80
  cases b with
  | false =>
    obtain ⟨rfl, rfl⟩ : t1 = r1 ∧ t2 = r2 := by
      simp only [Bool.false_eq_true, if_false, Option.some.injEq, Prod.mk.injEq] at H
      exact H
    clear H
    go_enter Try.func58, Try.ntmps58
    go_wp2_with (first | ((with_reducible refine gate_dst (N := 3) rfl ?_); refine box_event ?hg (N := 3) ?hd (cs := #[.slice A0_0 l0_0.length c0_0, .int .i64 a0_1]) (t := 64) ?hr ?_; (case hd => rfl); (case hg => rfl); (case hr => first | (go_simp; done) | (go_simp; rfl)); intro gb1 hg w1 hbox hb; have n0_ := Aside0.mk (below_step (by repeat (first | exact HB.out | apply below_alloc | apply pw_below_drewN | apply below_drew1 | refine below_set ?_ GE1.out | refine below_set ?_ GE2.out | refine below_set ?_ GE3.out)) hb); have n1_ := Aside0.mk hbox; have n2_ := Aside0.mk ((by rw [hg]; exact (below_size (by repeat (first | exact HB.out | apply below_alloc | apply pw_below_drewN | apply below_drew1 | refine below_set ?_ GE1.out | refine below_set ?_ GE2.out | refine below_set ?_ GE3.out)))) : w.heap.size ≤ gb1); clear HB; have HB := n0_; have BK1 := n1_; have GE1 := n2_; clear n0_ n1_ n2_; clear hbox hb hg) | ((with_reducible refine gate_dst (N := 6) rfl ?_); refine box_event ?hg (N := 6) ?hd (cs := #[.slice none 0 0, .int .i64 0]) (t := 64) ?hr ?_; (case hd => rfl); (case hg => rfl); (case hr => first | (go_simp; done) | (go_simp; rfl)); intro gb2 hg w2 hbox hb; have m1_ := Aside0.mk (blk_below BK1.out hb); have e1_ := Aside0.mk (by rw [hg]; exact Nat.ne_of_lt (blk_lt BK1.out) : gb1 ≠ gb2); have n0_ := Aside0.mk (below_step (by repeat (first | exact HB.out | apply below_alloc | apply pw_below_drewN | apply below_drew1 | refine below_set ?_ GE1.out | refine below_set ?_ GE2.out | refine below_set ?_ GE3.out)) hb); have n1_ := Aside0.mk hbox; have n2_ := Aside0.mk ((by rw [hg]; exact (below_size (by repeat (first | exact HB.out | apply below_alloc | apply pw_below_drewN | apply below_drew1 | refine below_set ?_ GE1.out | refine below_set ?_ GE2.out | refine below_set ?_ GE3.out)))) : w.heap.size ≤ gb2); clear HB; have HB := n0_; have BK2 := n1_; have GE2 := n2_; clear n0_ n1_ n2_; clear BK1; have BK1 := m1_; have NE12 := e1_; clear m1_ e1_; clear hbox hb hg; have h10 : w2.cell? ⟨gb1, 0, none⟩ = some (Value.slice A0_0 l0_0.length c0_0) := (blk_cell BK1.out 0).trans rfl; have h11 : w2.cell? ⟨gb1, 1, none⟩ = some (Value.int .i64 a0_1) := (blk_cell BK1.out 1).trans rfl) | ((with_reducible refine gate_callee (f := 103) rfl ?_); refine goesL_ (some 9) rfl rfl Try.func103 (by kernel_rfl) rfl #[.agg #[.slice A0_0 l0_0.length c0_0, .int .i64 a0_1]] rfl (by (try simp only [List.map_toArray, List.map_cons, List.map_nil]); first | done | rfl | (simp only [List.length_drop, List.length_take]; rfl)) ?_; (with_reducible refine (impl_right.calls k _ _ l0_0 a0_1 t1 t2 _ ?side1 ?side2 A7.out).mono ?_); (case side1 => repeat (first | exact (Kd.C_below HR.out HB.out) | (with_reducible refine Kd.C_alloc ?_ _) | (with_reducible refine Kd.C_drewN ?_ _) | (with_reducible refine Kd.C_drew ?_))); (case side2 => exact HC.out); rintro e w5 ⟨v5, rfl, ho0, hb⟩; refine ⟨_, rfl, ?_⟩; have n0_ := Aside0.mk (Kd.R_lower ho0 (below_size (by repeat (first | exact HB.out | apply below_alloc | apply pw_below_drewN | apply below_drew1 | refine below_set ?_ GE1.out | refine below_set ?_ GE2.out | refine below_set ?_ GE3.out)))); have n2_ := Aside0.mk (blk_below BK2.out hb); have n3_ := Aside0.mk (below_step (by repeat (first | exact HB.out | apply below_alloc | apply pw_below_drewN | apply below_drew1 | refine below_set ?_ GE1.out | refine below_set ?_ GE2.out | refine below_set ?_ GE3.out)) hb); clear h10 h11 BK1 BK2 HB; have HO := n0_; have BK2 := n2_; have HB := n3_; clear n0_ n2_ n3_ hb ho0; obtain ⟨Av, cv, ev⟩ := Kd.R_slice HO.out; subst ev) | ((with_reducible refine gate_dst (N := 7) rfl ?_); refine box_event ?hg (N := 7) ?hd (cs := #[.slice none 0 0, .int .i64 0]) (t := 64) ?hr ?_; (case hd => rfl); (case hg => rfl); (case hr => first | (go_simp; done) | (go_simp; rfl)); intro gb3 hg w3 hbox hb; have m2_ := Aside0.mk (blk_below BK2.out hb); have e2_ := Aside0.mk (by rw [hg]; exact Nat.ne_of_lt (blk_lt BK2.out) : gb2 ≠ gb3); have rHO_ := Aside0.mk (Kd.R_below HO.out hb); have n0_ := Aside0.mk (below_step (by repeat (first | exact HB.out | apply below_alloc | apply pw_below_drewN | apply below_drew1 | refine below_set ?_ GE1.out | refine below_set ?_ GE2.out | refine below_set ?_ GE3.out)) hb); have n1_ := Aside0.mk hbox; have n2_ := Aside0.mk ((by rw [hg]; exact (below_size (by repeat (first | exact HB.out | apply below_alloc | apply pw_below_drewN | apply below_drew1 | refine below_set ?_ GE1.out | refine below_set ?_ GE2.out | refine below_set ?_ GE3.out)))) : w.heap.size ≤ gb3); clear HB; have HB := n0_; have BK3 := n1_; have GE3 := n2_; clear n0_ n1_ n2_; clear BK2; have BK2 := m2_; have NE23 := e2_; clear m2_ e2_; clear HO; have HO := rHO_; clear rHO_; clear hbox hb hg; have h30 : w3.cell? ⟨gb3, 0, none⟩ = some (Value.slice none 0 0) := (blk_cell BK3.out 0).trans rfl; have h31 : w3.cell? ⟨gb3, 1, none⟩ = some (Value.int .i64 0) := (blk_cell BK3.out 1).trans rfl; have hz30 := blk_frozen BK3.out 0; have hz31 := blk_frozen BK3.out 1) | ((with_reducible refine gate_callee (f := 104) rfl ?_); have n0_ : Aside0 (((w3.setCell ⟨gb3, 0, none⟩ (.slice Av t1.length cv)).setCell ⟨gb3, 1, none⟩ (.int .i64 t2)).heap[gb3]? = some (.cells #[.slice Av t1.length cv, .int .i64 t2] 64 (0, 0))) := ⟨blk_put (cs := #[.slice Av t1.length cv, .int .i64 0]) (blk_put (cs := #[.slice none 0 0, .int .i64 0]) BK3.out 0 _ rfl) 1 _ rfl⟩; have n1_ : Aside0 (((w3.setCell ⟨gb3, 0, none⟩ (.slice Av t1.length cv)).setCell ⟨gb3, 1, none⟩ (.int .i64 t2)).heap[gb2]? = some (.cells #[.slice none 0 0, .int .i64 0] 64 (0, 0))) := ⟨blk_far (blk_far BK2.out NE23.out _) NE23.out _⟩; have n2_ : Aside0 (Kd.R (Kd.int .u8) 5 ((w3.setCell ⟨gb3, 0, none⟩ (.slice Av t1.length cv)).setCell ⟨gb3, 1, none⟩ (.int .i64 t2)) w.heap.size (fun _ => True) (.slice Av t1.length cv) t1) := ⟨Kd.R_mono (Kd.R_far (p := ⟨gb3, 1, none⟩) (Kd.R_far (p := ⟨gb3, 0, none⟩) (Kd.R_types HO.out BK3.out (by decide)) (fun _ hk => hk.2) _) (fun _ hk => hk.2) _) (fun _ _ => trivial)⟩; have n3_ : Aside0 (Below w.heap.size w ((w3.setCell ⟨gb3, 0, none⟩ (.slice Av t1.length cv)).setCell ⟨gb3, 1, none⟩ (.int .i64 t2))) := ⟨below_set (below_set HB.out GE3.out) GE3.out⟩; clear h30 h31 hz30 hz31 HB BK2 BK3 HO; generalize ((w3.setCell ⟨gb3, 0, none⟩ (.slice Av t1.length cv)).setCell ⟨gb3, 1, none⟩ (.int .i64 t2)) = w4 at n0_ n1_ n2_ n3_ ⊢; have BK3 := n0_; have BK2 := n1_; have HO := n2_; have HB := n3_; clear n0_ n1_ n2_ n3_; refine goesL_ (some 12) rfl rfl Try.func104 (by kernel_rfl) rfl #[.int .u64 a1, .int .i64 a2] rfl (by (try simp only [List.map_toArray, List.map_cons, List.map_nil]); first | done | rfl) ?_; (with_reducible refine (impl_fits.calls a1 a2 false _ A8.out).mono ?_); rintro e w6 ⟨rfl, hd⟩; refine ⟨_, rfl, ?_⟩; have hb := hd.below; have n0_ := Aside0.mk (blk_below BK3.out hb); have n1_ := Aside0.mk (blk_below BK2.out hb); have n2_ := Aside0.mk (Kd.R_below HO.out hb); have n3_ := Aside0.mk (below_step HB.out hb); clear BK3 BK2 HO HB hb hd; have BK3 := n0_; have BK2 := n1_; have HO := n2_; have HB := n3_; clear n0_ n1_ n2_ n3_; have h30 : w6.cell? ⟨gb3, 0, none⟩ = some (Value.slice Av t1.length cv) := (blk_cell BK3.out 0).trans rfl; have h31 : w6.cell? ⟨gb3, 1, none⟩ = some (Value.int .i64 t2) := (blk_cell BK3.out 1).trans rfl; have h20 : w6.cell? ⟨gb2, 0, none⟩ = some (Value.slice none 0 0) := (blk_cell BK2.out 0).trans rfl; have h21 : w6.cell? ⟨gb2, 1, none⟩ = some (Value.int .i64 0) := (blk_cell BK2.out 1).trans rfl; have hz20 := blk_frozen BK2.out 0; have hz21 := blk_frozen BK2.out 1) | (fail))
    refine bodyPost_ret (results_cell_row rfl _ _ gb2 64 #[.slice Av t1.length cv, .int .i64 t2] (0, 0) _ rfl ?hrow Try.underlying64 rfl (by kernel_rfl)) rfl ?_
    case hrow => exact blk_put (cs := #[.slice Av t1.length cv, .int .i64 0]) (blk_put (cs := #[.slice none 0 0, .int .i64 0]) BK2.out 0 _ rfl) 1 _ rfl
    exact ⟨_, rfl, Kd.R_mono (Kd.R_far (p := ⟨gb2, 1, none⟩) (Kd.R_far (p := ⟨gb2, 0, none⟩) (Kd.R_types HO.out BK2.out (by decide)) (fun _ hk => hk.2) _) (fun _ hk => hk.2) _) (fun _ _ => trivial), below_set (below_set HB.out GE2.out) GE2.out⟩
  | true =>
    have A9 := Aside0.mk (show impl_Bits_put.f k t1 t2 a1 a2 = some (r1, r2) from H)
    clear H
    go_enter Try.func58, Try.ntmps58
    go_wp2_with (first | ((with_reducible refine gate_dst (N := 3) rfl ?_); refine box_event ?hg (N := 3) ?hd (cs := #[.slice A0_0 l0_0.length c0_0, .int .i64 a0_1]) (t := 64) ?hr ?_; (case hd => rfl); (case hg => rfl); (case hr => first | (go_simp; done) | (go_simp; rfl)); intro gb1 hg w1 hbox hb; have n0_ := Aside0.mk (below_step (by repeat (first | exact HB.out | apply below_alloc | apply pw_below_drewN | apply below_drew1 | refine below_set ?_ GE1.out | refine below_set ?_ GE2.out | refine below_set ?_ GE3.out)) hb); have n1_ := Aside0.mk hbox; have n2_ := Aside0.mk ((by rw [hg]; exact (below_size (by repeat (first | exact HB.out | apply below_alloc | apply pw_below_drewN | apply below_drew1 | refine below_set ?_ GE1.out | refine below_set ?_ GE2.out | refine below_set ?_ GE3.out)))) : w.heap.size ≤ gb1); clear HB; have HB := n0_; have BK1 := n1_; have GE1 := n2_; clear n0_ n1_ n2_; clear hbox hb hg) | ((with_reducible refine gate_dst (N := 6) rfl ?_); refine box_event ?hg (N := 6) ?hd (cs := #[.slice none 0 0, .int .i64 0]) (t := 64) ?hr ?_; (case hd => rfl); (case hg => rfl); (case hr => first | (go_simp; done) | (go_simp; rfl)); intro gb2 hg w2 hbox hb; have m1_ := Aside0.mk (blk_below BK1.out hb); have e1_ := Aside0.mk (by rw [hg]; exact Nat.ne_of_lt (blk_lt BK1.out) : gb1 ≠ gb2); have n0_ := Aside0.mk (below_step (by repeat (first | exact HB.out | apply below_alloc | apply pw_below_drewN | apply below_drew1 | refine below_set ?_ GE1.out | refine below_set ?_ GE2.out | refine below_set ?_ GE3.out)) hb); have n1_ := Aside0.mk hbox; have n2_ := Aside0.mk ((by rw [hg]; exact (below_size (by repeat (first | exact HB.out | apply below_alloc | apply pw_below_drewN | apply below_drew1 | refine below_set ?_ GE1.out | refine below_set ?_ GE2.out | refine below_set ?_ GE3.out)))) : w.heap.size ≤ gb2); clear HB; have HB := n0_; have BK2 := n1_; have GE2 := n2_; clear n0_ n1_ n2_; clear BK1; have BK1 := m1_; have NE12 := e1_; clear m1_ e1_; clear hbox hb hg; have h10 : w2.cell? ⟨gb1, 0, none⟩ = some (Value.slice A0_0 l0_0.length c0_0) := (blk_cell BK1.out 0).trans rfl; have h11 : w2.cell? ⟨gb1, 1, none⟩ = some (Value.int .i64 a0_1) := (blk_cell BK1.out 1).trans rfl) | ((with_reducible refine gate_callee (f := 103) rfl ?_); refine goesL_ (some 9) rfl rfl Try.func103 (by kernel_rfl) rfl #[.agg #[.slice A0_0 l0_0.length c0_0, .int .i64 a0_1]] rfl (by (try simp only [List.map_toArray, List.map_cons, List.map_nil]); first | done | rfl | (simp only [List.length_drop, List.length_take]; rfl)) ?_; (with_reducible refine (impl_right.calls k _ _ l0_0 a0_1 t1 t2 _ ?side1 ?side2 A7.out).mono ?_); (case side1 => repeat (first | exact (Kd.C_below HR.out HB.out) | (with_reducible refine Kd.C_alloc ?_ _) | (with_reducible refine Kd.C_drewN ?_ _) | (with_reducible refine Kd.C_drew ?_))); (case side2 => exact HC.out); rintro e w5 ⟨v5, rfl, ho0, hb⟩; refine ⟨_, rfl, ?_⟩; have n0_ := Aside0.mk (Kd.R_lower ho0 (below_size (by repeat (first | exact HB.out | apply below_alloc | apply pw_below_drewN | apply below_drew1 | refine below_set ?_ GE1.out | refine below_set ?_ GE2.out | refine below_set ?_ GE3.out)))); have n2_ := Aside0.mk (blk_below BK2.out hb); have n3_ := Aside0.mk (below_step (by repeat (first | exact HB.out | apply below_alloc | apply pw_below_drewN | apply below_drew1 | refine below_set ?_ GE1.out | refine below_set ?_ GE2.out | refine below_set ?_ GE3.out)) hb); clear h10 h11 BK1 BK2 HB; have HO := n0_; have BK2 := n2_; have HB := n3_; clear n0_ n2_ n3_ hb ho0; obtain ⟨Av, cv, ev⟩ := Kd.R_slice HO.out; subst ev) | ((with_reducible refine gate_dst (N := 7) rfl ?_); refine box_event ?hg (N := 7) ?hd (cs := #[.slice none 0 0, .int .i64 0]) (t := 64) ?hr ?_; (case hd => rfl); (case hg => rfl); (case hr => first | (go_simp; done) | (go_simp; rfl)); intro gb3 hg w3 hbox hb; have m2_ := Aside0.mk (blk_below BK2.out hb); have e2_ := Aside0.mk (by rw [hg]; exact Nat.ne_of_lt (blk_lt BK2.out) : gb2 ≠ gb3); have rHO_ := Aside0.mk (Kd.R_below HO.out hb); have n0_ := Aside0.mk (below_step (by repeat (first | exact HB.out | apply below_alloc | apply pw_below_drewN | apply below_drew1 | refine below_set ?_ GE1.out | refine below_set ?_ GE2.out | refine below_set ?_ GE3.out)) hb); have n1_ := Aside0.mk hbox; have n2_ := Aside0.mk ((by rw [hg]; exact (below_size (by repeat (first | exact HB.out | apply below_alloc | apply pw_below_drewN | apply below_drew1 | refine below_set ?_ GE1.out | refine below_set ?_ GE2.out | refine below_set ?_ GE3.out)))) : w.heap.size ≤ gb3); clear HB; have HB := n0_; have BK3 := n1_; have GE3 := n2_; clear n0_ n1_ n2_; clear BK2; have BK2 := m2_; have NE23 := e2_; clear m2_ e2_; clear HO; have HO := rHO_; clear rHO_; clear hbox hb hg; have h30 : w3.cell? ⟨gb3, 0, none⟩ = some (Value.slice none 0 0) := (blk_cell BK3.out 0).trans rfl; have h31 : w3.cell? ⟨gb3, 1, none⟩ = some (Value.int .i64 0) := (blk_cell BK3.out 1).trans rfl; have hz30 := blk_frozen BK3.out 0; have hz31 := blk_frozen BK3.out 1) | ((with_reducible refine gate_callee (f := 104) rfl ?_); have n0_ : Aside0 (((w3.setCell ⟨gb3, 0, none⟩ (.slice Av t1.length cv)).setCell ⟨gb3, 1, none⟩ (.int .i64 t2)).heap[gb3]? = some (.cells #[.slice Av t1.length cv, .int .i64 t2] 64 (0, 0))) := ⟨blk_put (cs := #[.slice Av t1.length cv, .int .i64 0]) (blk_put (cs := #[.slice none 0 0, .int .i64 0]) BK3.out 0 _ rfl) 1 _ rfl⟩; have n1_ : Aside0 (((w3.setCell ⟨gb3, 0, none⟩ (.slice Av t1.length cv)).setCell ⟨gb3, 1, none⟩ (.int .i64 t2)).heap[gb2]? = some (.cells #[.slice none 0 0, .int .i64 0] 64 (0, 0))) := ⟨blk_far (blk_far BK2.out NE23.out _) NE23.out _⟩; have n2_ : Aside0 (Kd.R (Kd.int .u8) 5 ((w3.setCell ⟨gb3, 0, none⟩ (.slice Av t1.length cv)).setCell ⟨gb3, 1, none⟩ (.int .i64 t2)) w.heap.size (fun _ => True) (.slice Av t1.length cv) t1) := ⟨Kd.R_mono (Kd.R_far (p := ⟨gb3, 1, none⟩) (Kd.R_far (p := ⟨gb3, 0, none⟩) (Kd.R_types HO.out BK3.out (by decide)) (fun _ hk => hk.2) _) (fun _ hk => hk.2) _) (fun _ _ => trivial)⟩; have n3_ : Aside0 (Below w.heap.size w ((w3.setCell ⟨gb3, 0, none⟩ (.slice Av t1.length cv)).setCell ⟨gb3, 1, none⟩ (.int .i64 t2))) := ⟨below_set (below_set HB.out GE3.out) GE3.out⟩; clear h30 h31 hz30 hz31 HB BK2 BK3 HO; generalize ((w3.setCell ⟨gb3, 0, none⟩ (.slice Av t1.length cv)).setCell ⟨gb3, 1, none⟩ (.int .i64 t2)) = w4 at n0_ n1_ n2_ n3_ ⊢; have BK3 := n0_; have BK2 := n1_; have HO := n2_; have HB := n3_; clear n0_ n1_ n2_ n3_; refine goesL_ (some 12) rfl rfl Try.func104 (by kernel_rfl) rfl #[.int .u64 a1, .int .i64 a2] rfl (by (try simp only [List.map_toArray, List.map_cons, List.map_nil]); first | done | rfl) ?_; (with_reducible refine (impl_fits.calls a1 a2 true _ A8.out).mono ?_); rintro e w6 ⟨rfl, hd⟩; refine ⟨_, rfl, ?_⟩; have hb := hd.below; have n0_ := Aside0.mk (blk_below BK3.out hb); have n1_ := Aside0.mk (blk_below BK2.out hb); have n2_ := Aside0.mk (Kd.R_below HO.out hb); have n3_ := Aside0.mk (below_step HB.out hb); clear BK3 BK2 HO HB hb hd; have BK3 := n0_; have BK2 := n1_; have HO := n2_; have HB := n3_; clear n0_ n1_ n2_ n3_) | ((with_reducible refine gate_callee (f := 105) rfl ?_); refine goesL_ (some 15) rfl rfl Try.func105 (by kernel_rfl) rfl #[.pointer (some ⟨gb3, 0, none⟩), .int .u64 a1, .int .i64 a2] rfl (by (try simp only [List.map_toArray, List.map_cons, List.map_nil]); first | done | rfl) ?_; (with_reducible refine (impl_Bits_put.calls k gb3 _ t1 t2 a1 a2 r1 r2 w _ (fun k_ => k_ ≠ gb2) HB.out GE3.out BK3.out (Kd.R_mono (Kd.R_types HO.out BK2.out (by decide)) (fun _ hk => hk.2)) A9.out).mono ?_); rintro e w7 ⟨rfl, ⟨u7, hb3, ho7⟩, hB7, hk7⟩; refine ⟨_, rfl, ?_⟩; have n0_ := Aside0.mk hb3; have n1_ := Aside0.mk (blk_kept BK2.out hk7 (fun h_ => h_.elim (fun h_ => h_ rfl) NE23.out)); have n2_ := Aside0.mk ho7; have n3_ := Aside0.mk hB7; clear BK3 BK2 HO HB hb3 hk7 ho7 hB7; have BK3 := n0_; have BK2 := n1_; have HO := n2_; have HB := n3_; clear n0_ n1_ n2_ n3_; obtain ⟨Aw, cw, ew⟩ := Kd.R_slice HO.out; subst ew; have h30 : w7.cell? ⟨gb3, 0, none⟩ = some (Value.slice Aw r1.length cw) := (blk_cell BK3.out 0).trans rfl; have h31 : w7.cell? ⟨gb3, 1, none⟩ = some (Value.int .i64 r2) := (blk_cell BK3.out 1).trans rfl; have h20 : w7.cell? ⟨gb2, 0, none⟩ = some (Value.slice none 0 0) := (blk_cell BK2.out 0).trans rfl; have h21 : w7.cell? ⟨gb2, 1, none⟩ = some (Value.int .i64 0) := (blk_cell BK2.out 1).trans rfl; have hz20 := blk_frozen BK2.out 0; have hz21 := blk_frozen BK2.out 1) | (fail))
    refine bodyPost_ret (results_cell_row rfl _ _ gb2 64 #[.slice Aw r1.length cw, .int .i64 r2] (0, 0) _ rfl ?hrow Try.underlying64 rfl (by kernel_rfl)) rfl ?_
    case hrow => exact blk_put (cs := #[.slice Aw r1.length cw, .int .i64 0]) (blk_put (cs := #[.slice none 0 0, .int .i64 0]) BK2.out 0 _ rfl) 1 _ rfl
    exact ⟨_, rfl, Kd.R_mono (Kd.R_far (p := ⟨gb2, 1, none⟩) (Kd.R_far (p := ⟨gb2, 0, none⟩) (Kd.R_types HO.out BK2.out (by decide)) (fun _ hk => hk.2) _) (fun _ hk => hk.2) _) (fun _ _ => trivial), below_set (below_set HB.out GE2.out) GE2.out⟩

/-! ### impl_Bits_putVar: function 106, by hand -/
def impl_Bits_putVar.l0 : Nat → Int → Int → List Int → Int → Option (List Int × Int)
  | 0, _, _, _, _ => none
  | k + 1, v, n, l, c => if v / 2 ^ (n.toNat - 1) = 0 then impl_Bits_put.f k l c (Go.bits .and .u64 v (IntKind.u64.wrap (IntKind.u64.wrap (2 ^ (n.toNat - 1)) - 1))) n else (impl_Bits_put.f k l c (Go.bits .or .u64 (Go.bits .and .u64 v (IntKind.u64.wrap (IntKind.u64.wrap (2 ^ (n.toNat - 1)) - 1))) (IntKind.u64.wrap (2 ^ (n.toNat - 1)))) n).bind fun t => impl_Bits_putVar.l0 k (v / 2 ^ (n.toNat - 1)) n t.1 t.2
def impl_Bits_putVar.f (k : Nat) (l : List Int) (c a1 a2 : Int) : Option (List Int × Int) := impl_Bits_putVar.l0 k a1 a2 l c
theorem impl_Bits_putVar.mono_l : ∀ k, ∀ y0 y1 y2 y3, LeO (impl_Bits_putVar.l0 k y0 y1 y2 y3) (impl_Bits_putVar.l0 (k + 1) y0 y1 y2 y3)
  | 0 => fun _ _ _ _ r h => by simp [impl_Bits_putVar.l0] at h
  | k + 1 => fun y0 y1 y2 y3 => by
    have ih0 := impl_Bits_putVar.mono_l k
    unfold impl_Bits_putVar.l0
    exact LeO.ite (impl_Bits_put.mono _ _ _ _ _) (LeO.bind (impl_Bits_put.mono _ _ _ _ _) (fun _ => ih0 _ _ _ _))
theorem impl_Bits_putVar.mono : ∀ a0 a1 a2 a3 k, LeO (impl_Bits_putVar.f k a0 a1 a2 a3) (impl_Bits_putVar.f (k + 1) a0 a1 a2 a3) := fun a0 a1 a2 a3 k => impl_Bits_putVar.mono_l k _ _ _ _
set_option maxHeartbeats 8000000 in
set_option maxRecDepth 100000 in
theorem impl_Bits_putVar.calls (k : Nat) (g : Nat) (u : Value) (l : List Int) (c a1 a2 : Int) (r1 : List Int) (r2 : Int) (w0 w : World) (P : Nat → Prop) (hB : Below w0.heap.size w0 w) (hg : w0.heap.size ≤ g)
    (hb : w.heap[g]? = some (.cells #[u, .int .i64 c] 64 (0, 0))) (ho : Kd.R (Kd.int .u8) 5 w w0.heap.size P u l) (q1 : 2 ≤ a2) (q2 : a2 ≤ 32) (h : impl_Bits_putVar.f k l c a1 a2 = some (r1, r2)) :
    Calls Try.prog 106 #[.pointer (some ⟨g, 0, none⟩), .int .u64 a1, .int .i64 a2] w fun e w' => e = .returned (.tuple #[]) ∧ (∃ u', w'.heap[g]? = some (.cells #[u', .int .i64 r2] 64 (0, 0)) ∧ Kd.R (Kd.int .u8) 5 w' w0.heap.size (fun k_ => P k_ ∨ w.heap.size ≤ k_) u' r1) ∧ Below w0.heap.size w0 w' ∧ Kept w w' (fun k_ => P k_ ∨ k_ = g) := by
  have hu64 := Try.underlying64
  have HG := Aside0.mk hg
  have BK := Aside0.mk hb
  have HO := Aside0.mk (show Kd.R (Kd.int .u8) 5 w w0.heap.size (fun k_ => P k_ ∨ w.heap.size ≤ k_) u l from Kd.R_mono ho (fun _ hk => .inl hk))
  have HK := Aside0.mk (Kept.refl w (fun k_ => P k_ ∨ k_ = g))
  have HB := Aside0.mk hB
  have H' := Aside0.mk (show impl_Bits_putVar.l0 k a1 a2 l c = some (r1, r2) from h)
  clear hg hb ho hB h
  go_enter Try.func106, Try.ntmps106
  go_wp2
  go_loopg [1] k (fun kq v1 w' => ∃ (v : Int) (u : Value) (l : List Int) (c : Int), v1 = .int .u64 v ∧ Aside0 (impl_Bits_putVar.l0 kq v a2 l c = some (r1, r2)) ∧ Aside0 (kq ≤ k) ∧ Aside0 (w'.heap[g]? = some (.cells #[u, .int .i64 c] 64 (0, 0))) ∧ Aside0 (Kd.R (Kd.int .u8) 5 w' w0.heap.size (fun k_ => P k_ ∨ w.heap.size ≤ k_) u l) ∧ Aside0 (Below w0.heap.size w0 w') ∧ Aside0 (Kept w w' (fun k_ => P k_ ∨ k_ = g)))
  case atStart => exact ⟨a1, u, l, c, rfl, H', ⟨Nat.le_refl _⟩, BK, HO, HB, HK⟩
  case round =>
    clear H' BK HO HB HK
    obtain ⟨v, u, l, c, rfl, HA, HK1, BK, HO, HB, HK⟩ := hrel
    cases gk with
    | zero => exact absurd HA.out (by simp [impl_Bits_putVar.l0])
    | succ k1 =>
      have H := HA.out
      clear HA
      simp only [impl_Bits_putVar.l0] at H
      by_cases c4 : v / 2 ^ (a2.toNat - 1) = 0
      · rw [if_pos c4] at H
        have c4b : (v / 2 ^ (a2.toNat - 1) == 0) = true := beq_iff_eq.mpr c4
        clear c4
        have A1 := Aside0.mk H
        clear H
        go_wp2_with (first | ((with_reducible refine gate_callee (f := 105) rfl ?_); refine goesL_ (some 22) rfl rfl Try.func105 (by kernel_rfl) rfl #[.pointer (some ⟨g, 0, none⟩), .int .u64 (Go.bits .and .u64 v (IntKind.u64.wrap (IntKind.u64.wrap (2 ^ (a2.toNat - 1)) - 1))), .int .i64 a2] rfl (by (try simp only [List.map_toArray, List.map_cons, List.map_nil]); first | done | rfl) ?_; (with_reducible refine (impl_Bits_put.calls k1 g _ l c (Go.bits .and .u64 v (IntKind.u64.wrap (IntKind.u64.wrap (2 ^ (a2.toNat - 1)) - 1))) a2 r1 r2 w0 _ (fun k_ => P k_ ∨ w.heap.size ≤ k_) HB.out HG.out BK.out HO.out A1.out).mono ?_); rintro e w7 ⟨rfl, ⟨u7, hb3, ho7⟩, hB7, hk7⟩; refine ⟨_, rfl, ?_⟩; have n0_ := Aside0.mk hb3; have n2_ := Aside0.mk (Kd.R_mono ho7 (fun _ h_ => h_.elim id (fun h_ => .inr (Nat.le_trans HK.out.1 h_)))); have n3_ := Aside0.mk hB7; have n4_ := Aside0.mk (HK.out.then_ hk7 (fun _ h_ => h_.elim (fun h_ => h_.elim (fun h_ => .inl (.inl h_)) .inr) (fun h_ => .inl (.inr h_)))); clear BK HO HB HK hb3 hk7 ho7 hB7; have BK := n0_; have HO := n2_; have HB := n3_; have HK := n4_; clear n0_ n2_ n3_ n4_) | (fail))
        (try simp only [Exit.inBlock, Exit.then])
        refine bodyPost_ret (results_none rfl _ _ _) rfl ?_
        exact ⟨rfl, ⟨_, BK.out, HO.out⟩, HB.out, HK.out⟩
      · rw [if_neg c4] at H
        have c4b : (v / 2 ^ (a2.toNat - 1) == 0) = false := beq_eq_false_iff_ne.mpr c4
        clear c4
        obtain ⟨⟨t1, t2⟩, A1, H⟩ := Option.bind_eq_some_iff.mp H
        replace A1 := Aside0.mk A1
        have H' := Aside0.mk H
        clear H
        go_wp2_with (first | ((with_reducible refine gate_callee (f := 105) rfl ?_); refine goesL_ (some 30) rfl rfl Try.func105 (by kernel_rfl) rfl #[.pointer (some ⟨g, 0, none⟩), .int .u64 (Go.bits .or .u64 (Go.bits .and .u64 v (IntKind.u64.wrap (IntKind.u64.wrap (2 ^ (a2.toNat - 1)) - 1))) (IntKind.u64.wrap (2 ^ (a2.toNat - 1)))), .int .i64 a2] rfl (by (try simp only [List.map_toArray, List.map_cons, List.map_nil]); first | done | rfl) ?_; (with_reducible refine (impl_Bits_put.calls k1 g _ l c (Go.bits .or .u64 (Go.bits .and .u64 v (IntKind.u64.wrap (IntKind.u64.wrap (2 ^ (a2.toNat - 1)) - 1))) (IntKind.u64.wrap (2 ^ (a2.toNat - 1)))) a2 t1 t2 w0 _ (fun k_ => P k_ ∨ w.heap.size ≤ k_) HB.out HG.out BK.out HO.out A1.out).mono ?_); rintro e w7 ⟨rfl, ⟨u7, hb3, ho7⟩, hB7, hk7⟩; refine ⟨_, rfl, ?_⟩; have n0_ := Aside0.mk hb3; have n2_ := Aside0.mk (Kd.R_mono ho7 (fun _ h_ => h_.elim id (fun h_ => .inr (Nat.le_trans HK.out.1 h_)))); have n3_ := Aside0.mk hB7; have n4_ := Aside0.mk (HK.out.then_ hk7 (fun _ h_ => h_.elim (fun h_ => h_.elim (fun h_ => .inl (.inl h_)) .inr) (fun h_ => .inl (.inr h_)))); clear BK HO HB HK hb3 hk7 ho7 hB7; have BK := n0_; have HO := n2_; have HB := n3_; have HK := n4_; clear n0_ n2_ n3_ n4_) | (fail))
        go_roundg k1
        case measure => have := HK1.out; omega
        case rel => exact ⟨v / 2 ^ (a2.toNat - 1), _, t1, t2, rfl, H', ⟨by have := HK1.out; omega⟩, BK, HO, HB, HK⟩

end Go.Proofs.Ythfhenhlfedfmaa.QFnBits
