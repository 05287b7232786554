/- At every predicate, width and pair of words the program's Compare tells what the reference's tells, for all whole numbers of 64 bits. -/
import Derived.Test.YthfhenhlfedfmaaQFnExactComparex3
import Derived.Laws.BitsAllLaws
import Derived.Laws.Bits64
namespace Go.Proofs.Ythfhenhlfedfmaa.Pure
open Go.RowKit Go.Proofs.Ythfhenhlfedfmaa.QFnExactCompare Go.Proofs.YthfhenhlfedfmaaW.PrintWords Go.Proofs.YthfhenhlfedfmaaW.PrintLast
set_option linter.unusedSimpArgs false
set_option linter.unusedVariables false
set_option maxHeartbeats 4000000

/-! plain words: masks, high bits, signs -/
theorem pl_u64b {n : Int} (h : (Lit.int .u64 n).wf = true) : 0 ≤ n ∧ n < 18446744073709551616 := by
  simp [Lit.wf, IntKind.min, IntKind.max, IntKind.signed, IntKind.bits] at h
  omega
theorem pl_i64b {n : Int} (h : (Lit.int .i64 n).wf = true) : -9223372036854775808 ≤ n ∧ n ≤ 9223372036854775807 := by
  simp [Lit.wf, IntKind.min, IntKind.max, IntKind.signed, IntKind.bits] at h
  omega
theorem pl_hi (v w : Nat) (hv : v < 2 ^ 64) (hw : w ≤ 64) : v &&& (18446744073709551615 - (2 ^ w - 1)) = v / 2 ^ w * 2 ^ w := by
  have h2 : (2 : Nat) ^ w ≤ 2 ^ 64 := Nat.pow_le_pow_right (by omega) hw
  have h1 : 0 < (2 : Nat) ^ w := Nat.pow_pos (by omega)
  have e : 18446744073709551615 - (2 ^ w - 1) = 2 ^ 64 - ((2 ^ w - 1) + 1) := by omega
  rw [e, ← Nat.shiftRight_eq_div_pow, ← Nat.shiftLeft_eq]
  apply Nat.eq_of_testBit_eq
  intro i
  rw [Nat.testBit_and, Nat.testBit_two_pow_sub_succ (by omega), Nat.testBit_two_pow_sub_one, Nat.testBit_shiftLeft, Nat.testBit_shiftRight]
  by_cases h64 : i < 64
  · by_cases hi : i < w
    · have hn : ¬ w ≤ i := by omega
      simp [h64, hi, hn]
    · have hi' : w ≤ i := by omega
      simp [h64, hi, hi', Nat.add_sub_cancel' hi']
  · have : v.testBit i = false := Nat.testBit_lt_two_pow (Nat.lt_of_lt_of_le hv (Nat.pow_le_pow_right (by omega) (by omega)))
    by_cases hi' : w ≤ i
    · simp [this, Nat.add_sub_cancel' hi']
    · simp [this, hi']
theorem pl_or (v w : Nat) (hv : v < 2 ^ w) (hw : w ≤ 64) : v ||| (2 ^ 64 - 2 ^ w) = v + (2 ^ 64 - 2 ^ w) := by
  have e : (2 : Nat) ^ 64 - 2 ^ w = (2 ^ (64 - w) - 1) <<< w := by
    rw [Nat.shiftLeft_eq, Nat.sub_mul, ← Nat.pow_add, Nat.sub_add_cancel hw, Nat.one_mul]
  rw [e, Nat.or_comm, ← Nat.shiftLeft_add_eq_or_of_lt hv, Nat.add_comm]

def wB (w : Int) : Bool := w == 1 || w == 8 || w == 16 || w == 32 || w == 64
def isB (w v : Int) : Bool := wB w && decide (v < 2 ^ w.toNat)
def sgn (w v : Int) : Int := if v < 2 ^ (w.toNat - 1) then v else v - 2 ^ w.toNat
theorem wB_cases {w : Int} (h : wB w = true) : w = 1 ∨ w = 8 ∨ w = 16 ∨ w = 32 ∨ w = 64 := by
  simpa [wB, or_assoc] using h
theorem wB_not {w : Int} (h : wB w = false) : ¬ w = 1 ∧ ¬ w = 8 ∧ ¬ w = 16 ∧ ¬ w = 32 ∧ ¬ w = 64 := by
  simpa [wB, and_assoc] using h
theorem spec_vw (w : Int) : spec_ValidWidth.f w = some (wB w) := by
  by_cases h1 : w = 1
  · subst h1
    rfl
  by_cases h8 : w = 8
  · subst h8
    rfl
  by_cases h16 : w = 16
  · subst h16
    rfl
  by_cases h32 : w = 32
  · subst h32
    rfl
  have e1 : (w == 1) = false := by simpa using h1
  have e8 : (w == 8) = false := by simpa using h8
  have e16 : (w == 16) = false := by simpa using h16
  have e32 : (w == 32) = false := by simpa using h32
  simp only [spec_ValidWidth.f, if_neg h1, if_neg h8, if_neg h16, if_neg h32, wB, e1, e8, e16, e32, Bool.false_or]
theorem impl_vw (w : Int) : impl_ValidWidth.f w = some (wB w) := by
  by_cases h1 : w = 1
  · subst h1
    rfl
  by_cases h8 : w = 8
  · subst h8
    rfl
  by_cases h16 : w = 16
  · subst h16
    rfl
  by_cases h32 : w = 32
  · subst h32
    rfl
  have e1 : (w == 1) = false := by simpa using h1
  have e8 : (w == 8) = false := by simpa using h8
  have e16 : (w == 16) = false := by simpa using h16
  have e32 : (w == 32) = false := by simpa using h32
  simp only [impl_ValidWidth.f, if_neg h1, if_neg h8, if_neg h16, if_neg h32, wB, e1, e8, e16, e32, Bool.false_or]
theorem spec_mask_at {w : Int} (h : wB w = true) : spec_l1Mask.f w = some (2 ^ w.toNat - 1) := by
  rcases wB_cases h with rfl | rfl | rfl | rfl | rfl <;> decide +kernel
theorem spec_cut_at {w v : Int} (h : wB w = true) (h0 : 0 ≤ v) (h1 : v < 18446744073709551616) : spec_Cut.f w v = some (v % 2 ^ w.toNat) := by
  unfold spec_Cut.f
  rw [spec_vw, h, spec_mask_at h]
  obtain ⟨n, rfl⟩ := Int.eq_ofNat_of_zero_le h0
  simp only [Option.bind_some, if_true]
  have hm : ∀ k : Nat, k ≤ 64 → Go.bits .and .u64 (n : Int) (2 ^ k - 1) = (n : Int) % 2 ^ k := by
    intro k hk
    have h2 : (2 : Nat) ^ k ≤ 2 ^ 64 := Nat.pow_le_pow_right (by omega) hk
    have hp : 0 < (2 : Nat) ^ k := Nat.pow_pos (by omega)
    have e : ((2 : Int) ^ k - 1) = ((2 ^ k - 1 : Nat) : Int) := by
      rw [Int.natCast_sub hp]
      simp
    rw [e, u64_and_nat n (2 ^ k - 1) (by omega) (by omega), Nat.and_two_pow_sub_one_eq_mod]
    simp
  have hk : w.toNat ≤ 64 := by
    rcases wB_cases h with rfl | rfl | rfl | rfl | rfl <;> decide
  rw [hm w.toNat hk]
theorem spec_cut_no {w v : Int} (h : wB w = false) : spec_Cut.f w v = some 0 := by
  unfold spec_Cut.f
  rw [spec_vw, h]
  rfl
theorem spec_is_at (w v : Int) (h0 : 0 ≤ v) (h1 : v < 18446744073709551616) : spec_l1Is.f w v = some (isB w v) := by
  unfold spec_l1Is.f isB
  rw [spec_vw]
  cases h : wB w with
  | false => rfl
  | true =>
    simp only [Option.bind_some, if_true, Bool.true_and]
    rw [spec_cut_at h h0 h1]
    simp only [Option.bind_some, Option.some.injEq]
    rw [Bool.eq_iff_iff]
    simp only [beq_iff_eq, decide_eq_true_eq]
    have hp : (0 : Int) < 2 ^ w.toNat := Int.pow_pos (by omega)
    constructor
    · intro e
      rw [e]
      exact Int.emod_lt_of_pos v hp
    · intro e
      exact (Int.emod_eq_of_lt h0 e).symm
theorem spec_signed_at (w v : Int) (h0 : 0 ≤ v) (h1 : v < 18446744073709551616) : spec_Signed.f w v = some (if isB w v = true then sgn w v else 0) := by
  unfold spec_Signed.f
  rw [spec_is_at w v h0 h1]
  cases hi : isB w v with
  | false => rfl
  | true =>
    simp only [Option.bind_some, if_true]
    have hw : wB w = true := by
      unfold isB at hi
      exact (Bool.and_eq_true _ _ ▸ hi).1
    have hv : v < 2 ^ w.toNat := by
      unfold isB at hi
      exact of_decide_eq_true (Bool.and_eq_true _ _ ▸ hi).2
    have htop : spec_l1Top.f w v = some (decide (2 ^ (w.toNat - 1) ≤ v)) := by
      unfold spec_l1Top.f
      rcases wB_cases hw with rfl | rfl | rfl | rfl | rfl
      · rw [if_pos (by decide +kernel), show IntKind.u64.wrap (wrap64 (1 - 1)) = 0 from by decide +kernel]
        have hv' : v < 2 := hv
        show some (v / 1 == 1) = some (decide (1 ≤ v))
        congr 1
        rw [Bool.eq_iff_iff]
        simp only [beq_iff_eq, decide_eq_true_eq]
        omega
      · rw [if_pos (by decide +kernel), show IntKind.u64.wrap (wrap64 (8 - 1)) = 7 from by decide +kernel]
        have hv' : v < 256 := hv
        show some (v / 128 == 1) = some (decide (128 ≤ v))
        congr 1
        rw [Bool.eq_iff_iff]
        simp only [beq_iff_eq, decide_eq_true_eq]
        omega
      · rw [if_pos (by decide +kernel), show IntKind.u64.wrap (wrap64 (16 - 1)) = 15 from by decide +kernel]
        have hv' : v < 65536 := hv
        show some (v / 32768 == 1) = some (decide (32768 ≤ v))
        congr 1
        rw [Bool.eq_iff_iff]
        simp only [beq_iff_eq, decide_eq_true_eq]
        omega
      · rw [if_pos (by decide +kernel), show IntKind.u64.wrap (wrap64 (32 - 1)) = 31 from by decide +kernel]
        have hv' : v < 4294967296 := hv
        show some (v / 2147483648 == 1) = some (decide (2147483648 ≤ v))
        congr 1
        rw [Bool.eq_iff_iff]
        simp only [beq_iff_eq, decide_eq_true_eq]
        omega
      · rw [if_pos (by decide +kernel), show IntKind.u64.wrap (wrap64 (64 - 1)) = 63 from by decide +kernel]
        have hv' : v < 18446744073709551616 := hv
        show some (v / 9223372036854775808 == 1) = some (decide (9223372036854775808 ≤ v))
        congr 1
        rw [Bool.eq_iff_iff]
        simp only [beq_iff_eq, decide_eq_true_eq]
        omega
    rw [htop, spec_mask_at hw]
    obtain ⟨n, rfl⟩ := Int.eq_ofNat_of_zero_le h0
    unfold sgn
    simp only [Option.bind_some, decide_eq_true_eq]
    by_cases ht : (2 : Int) ^ (w.toNat - 1) ≤ (n : Int)
    · rw [if_pos ht, if_neg (by omega)]
      congr 1
      rcases wB_cases hw with rfl | rfl | rfl | rfl | rfl
      · have hv' : (n : Int) < 2 := hv
        rw [show Go.bits .xor .u64 18446744073709551615 (2 ^ ((1 : Int)).toNat - 1) = ((18446744073709551614 : Nat) : Int) from by decide +kernel, u64_or_nat n 18446744073709551614 (by omega) (by omega), show (18446744073709551614 : Nat) = 2 ^ 64 - 2 ^ 1 from by decide +kernel, pl_or n 1 (by show n < 2; omega) (by omega)]
        show wrap64 (((n + 18446744073709551614 : Nat)) : Int) = (n : Int) - 2
        have ht' : (1 : Int) ≤ (n : Int) := ht
        unfold wrap64
        omega
      · have hv' : (n : Int) < 256 := hv
        rw [show Go.bits .xor .u64 18446744073709551615 (2 ^ ((8 : Int)).toNat - 1) = ((18446744073709551360 : Nat) : Int) from by decide +kernel, u64_or_nat n 18446744073709551360 (by omega) (by omega), show (18446744073709551360 : Nat) = 2 ^ 64 - 2 ^ 8 from by decide +kernel, pl_or n 8 (by show n < 256; omega) (by omega)]
        show wrap64 (((n + 18446744073709551360 : Nat)) : Int) = (n : Int) - 256
        have ht' : (128 : Int) ≤ (n : Int) := ht
        unfold wrap64
        omega
      · have hv' : (n : Int) < 65536 := hv
        rw [show Go.bits .xor .u64 18446744073709551615 (2 ^ ((16 : Int)).toNat - 1) = ((18446744073709486080 : Nat) : Int) from by decide +kernel, u64_or_nat n 18446744073709486080 (by omega) (by omega), show (18446744073709486080 : Nat) = 2 ^ 64 - 2 ^ 16 from by decide +kernel, pl_or n 16 (by show n < 65536; omega) (by omega)]
        show wrap64 (((n + 18446744073709486080 : Nat)) : Int) = (n : Int) - 65536
        have ht' : (32768 : Int) ≤ (n : Int) := ht
        unfold wrap64
        omega
      · have hv' : (n : Int) < 4294967296 := hv
        rw [show Go.bits .xor .u64 18446744073709551615 (2 ^ ((32 : Int)).toNat - 1) = ((18446744069414584320 : Nat) : Int) from by decide +kernel, u64_or_nat n 18446744069414584320 (by omega) (by omega), show (18446744069414584320 : Nat) = 2 ^ 64 - 2 ^ 32 from by decide +kernel, pl_or n 32 (by show n < 4294967296; omega) (by omega)]
        show wrap64 (((n + 18446744069414584320 : Nat)) : Int) = (n : Int) - 4294967296
        have ht' : (2147483648 : Int) ≤ (n : Int) := ht
        unfold wrap64
        omega
      · have hv' : (n : Int) < 18446744073709551616 := hv
        rw [show Go.bits .xor .u64 18446744073709551615 (2 ^ ((64 : Int)).toNat - 1) = ((0 : Nat) : Int) from by decide +kernel, u64_or_nat n 0 (by omega) (by omega), show (0 : Nat) = 2 ^ 64 - 2 ^ 64 from by decide +kernel, pl_or n 64 (by show n < 18446744073709551616; omega) (by omega)]
        show wrap64 (((n + 0 : Nat)) : Int) = (n : Int) - 18446744073709551616
        have ht' : (9223372036854775808 : Int) ≤ (n : Int) := ht
        unfold wrap64
        omega
    · rw [if_neg ht, if_pos (by omega)]
      congr 1
      rcases wB_cases hw with rfl | rfl | rfl | rfl | rfl
      · have ht' : ¬ (1 : Int) ≤ (n : Int) := ht
        unfold wrap64
        omega
      · have ht' : ¬ (128 : Int) ≤ (n : Int) := ht
        unfold wrap64
        omega
      · have ht' : ¬ (32768 : Int) ≤ (n : Int) := ht
        unfold wrap64
        omega
      · have ht' : ¬ (2147483648 : Int) ≤ (n : Int) := ht
        unfold wrap64
        omega
      · have ht' : ¬ (9223372036854775808 : Int) ≤ (n : Int) := ht
        unfold wrap64
        omega
theorem impl_mask_at {w : Int} (h : wB w = true) : impl_mask.f w = some (2 ^ w.toNat - 1) := by
  rcases wB_cases h with rfl | rfl | rfl | rfl | rfl <;> decide +kernel
theorem impl_is_at (w v : Int) (h0 : 0 ≤ v) (h1 : v < 18446744073709551616) : impl_isWord.f w v = some (isB w v) := by
  unfold impl_isWord.f isB
  rw [impl_vw]
  cases h : wB w with
  | false => rfl
  | true =>
    simp only [Option.bind_some, if_true, Bool.true_and]
    rw [impl_mask_at h]
    obtain ⟨n, rfl⟩ := Int.eq_ofNat_of_zero_le h0
    simp only [Option.bind_some, Option.some.injEq]
    rw [Bool.eq_iff_iff]
    simp only [beq_iff_eq, decide_eq_true_eq]
    rcases wB_cases h with rfl | rfl | rfl | rfl | rfl
    · rw [show ((2 : Int) ^ ((1 : Int)).toNat - 1) = ((1 : Nat) : Int) from by decide +kernel, u64_andNot_nat n 1 (by omega) (by omega), show (1 : Nat) = 2 ^ 1 - 1 from by decide +kernel, pl_hi n 1 (by show n < 18446744073709551616; omega) (by omega)]
      show ((n / 2 * 2 : Nat) : Int) = 0 ↔ (n : Int) < 2
      omega
    · rw [show ((2 : Int) ^ ((8 : Int)).toNat - 1) = ((255 : Nat) : Int) from by decide +kernel, u64_andNot_nat n 255 (by omega) (by omega), show (255 : Nat) = 2 ^ 8 - 1 from by decide +kernel, pl_hi n 8 (by show n < 18446744073709551616; omega) (by omega)]
      show ((n / 256 * 256 : Nat) : Int) = 0 ↔ (n : Int) < 256
      omega
    · rw [show ((2 : Int) ^ ((16 : Int)).toNat - 1) = ((65535 : Nat) : Int) from by decide +kernel, u64_andNot_nat n 65535 (by omega) (by omega), show (65535 : Nat) = 2 ^ 16 - 1 from by decide +kernel, pl_hi n 16 (by show n < 18446744073709551616; omega) (by omega)]
      show ((n / 65536 * 65536 : Nat) : Int) = 0 ↔ (n : Int) < 65536
      omega
    · rw [show ((2 : Int) ^ ((32 : Int)).toNat - 1) = ((4294967295 : Nat) : Int) from by decide +kernel, u64_andNot_nat n 4294967295 (by omega) (by omega), show (4294967295 : Nat) = 2 ^ 32 - 1 from by decide +kernel, pl_hi n 32 (by show n < 18446744073709551616; omega) (by omega)]
      show ((n / 4294967296 * 4294967296 : Nat) : Int) = 0 ↔ (n : Int) < 4294967296
      omega
    · rw [show ((2 : Int) ^ ((64 : Int)).toNat - 1) = ((18446744073709551615 : Nat) : Int) from by decide +kernel, u64_andNot_nat n 18446744073709551615 (by omega) (by omega), show (18446744073709551615 : Nat) = 2 ^ 64 - 1 from by decide +kernel, pl_hi n 64 (by show n < 18446744073709551616; omega) (by omega)]
      show ((n / 18446744073709551616 * 18446744073709551616 : Nat) : Int) = 0 ↔ (n : Int) < 18446744073709551616
      omega
theorem impl_signed_at (w v : Int) (h0 : 0 ≤ v) (h1 : v < 18446744073709551616) : impl_Signed.f w v = some (if isB w v = true then sgn w v else 0) := by
  unfold impl_Signed.f
  rw [impl_is_at w v h0 h1]
  cases hi : isB w v with
  | false => rfl
  | true =>
    simp only [Option.bind_some, if_true]
    have hw : wB w = true := by
      unfold isB at hi
      exact (Bool.and_eq_true _ _ ▸ hi).1
    have hv : v < 2 ^ w.toNat := by
      unfold isB at hi
      exact of_decide_eq_true (Bool.and_eq_true _ _ ▸ hi).2
    rcases wB_cases hw with rfl | rfl | rfl | rfl | rfl
    · rw [if_pos (by decide +kernel), show wrap64 (64 - 1) = 63 from by decide +kernel]
      have hv' : v < 2 := hv
      show some (wrap64 (IntKind.u64.wrap (v * 9223372036854775808)) / 9223372036854775808) = some (if v < 1 then v else v - 2)
      rw [IntKind.wrap_u64]
      congr 1
      unfold wrap64
      split <;> omega
    · rw [if_pos (by decide +kernel), show wrap64 (64 - 8) = 56 from by decide +kernel]
      have hv' : v < 256 := hv
      show some (wrap64 (IntKind.u64.wrap (v * 72057594037927936)) / 72057594037927936) = some (if v < 128 then v else v - 256)
      rw [IntKind.wrap_u64]
      congr 1
      unfold wrap64
      split <;> omega
    · rw [if_pos (by decide +kernel), show wrap64 (64 - 16) = 48 from by decide +kernel]
      have hv' : v < 65536 := hv
      show some (wrap64 (IntKind.u64.wrap (v * 281474976710656)) / 281474976710656) = some (if v < 32768 then v else v - 65536)
      rw [IntKind.wrap_u64]
      congr 1
      unfold wrap64
      split <;> omega
    · rw [if_pos (by decide +kernel), show wrap64 (64 - 32) = 32 from by decide +kernel]
      have hv' : v < 4294967296 := hv
      show some (wrap64 (IntKind.u64.wrap (v * 4294967296)) / 4294967296) = some (if v < 2147483648 then v else v - 4294967296)
      rw [IntKind.wrap_u64]
      congr 1
      unfold wrap64
      split <;> omega
    · rw [if_pos (by decide +kernel), show wrap64 (64 - 64) = 0 from by decide +kernel]
      have hv' : v < 18446744073709551616 := hv
      show some (wrap64 (IntKind.u64.wrap (v * 1)) / 1) = some (if v < 9223372036854775808 then v else v - 18446744073709551616)
      rw [IntKind.wrap_u64]
      congr 1
      unfold wrap64
      split <;> omega


def one (b : Bool) : Int × Int := if b = true then (0, 1) else (0, 0)
theorem ite_one (p : Prop) [Decidable p] : (if p then some ((0, 1) : Int × Int) else some (0, 0)) = some (one (decide p)) := by
  unfold one
  by_cases h : p <;> simp [h]
theorem ite_one' (p : Prop) [Decidable p] : (if p then some ((0, 0) : Int × Int) else some (0, 1)) = some (one (!decide p)) := by
  unfold one
  by_cases h : p <;> simp [h]
theorem spec_j0 (p w a b : Int) (h0 : 0 ≤ a) (h1 : a < 18446744073709551616) (h2 : 0 ≤ b) (h3 : b < 18446744073709551616) (hp : 1 ≤ p ∧ p ≤ 10) (ha : isB w a = true) (hb : isB w b = true) (x : Int × Int)
    (h : impl_Compare.j0 9 p w a b false = some x) : spec_Compare.j0 9 p w a b false = some x := by
  have ea : impl_Signed.f w a = some (sgn w a) := by rw [impl_signed_at w a h0 h1, if_pos ha]
  have eb : impl_Signed.f w b = some (sgn w b) := by rw [impl_signed_at w b h2 h3, if_pos hb]
  have fa : spec_Signed.f w a = some (sgn w a) := by rw [spec_signed_at w a h0 h1, if_pos ha]
  have fb : spec_Signed.f w b = some (sgn w b) := by rw [spec_signed_at w b h2 h3, if_pos hb]
  have hs : a = b ↔ sgn w a = sgn w b := by
    constructor
    · rintro rfl
      rfl
    · intro e
      have hwa : wB w = true := by
        unfold isB at ha
        exact (Bool.and_eq_true _ _ ▸ ha).1
      have hva : a < 2 ^ w.toNat := by
        unfold isB at ha
        exact of_decide_eq_true (Bool.and_eq_true _ _ ▸ ha).2
      have hvb : b < 2 ^ w.toNat := by
        unfold isB at hb
        exact of_decide_eq_true (Bool.and_eq_true _ _ ▸ hb).2
      unfold sgn at e
      rcases wB_cases hwa with rfl | rfl | rfl | rfl | rfl
      · have g1 : a < 2 := hva
        have g2 : b < 2 := hvb
        have e' : (if a < 1 then a else a - 2) = (if b < 1 then b else b - 2) := e
        split at e' <;> split at e' <;> omega
      · have g1 : a < 256 := hva
        have g2 : b < 256 := hvb
        have e' : (if a < 128 then a else a - 256) = (if b < 128 then b else b - 256) := e
        split at e' <;> split at e' <;> omega
      · have g1 : a < 65536 := hva
        have g2 : b < 65536 := hvb
        have e' : (if a < 32768 then a else a - 65536) = (if b < 32768 then b else b - 65536) := e
        split at e' <;> split at e' <;> omega
      · have g1 : a < 4294967296 := hva
        have g2 : b < 4294967296 := hvb
        have e' : (if a < 2147483648 then a else a - 4294967296) = (if b < 2147483648 then b else b - 4294967296) := e
        split at e' <;> split at e' <;> omega
      · have e' : (if a < 9223372036854775808 then a else a - 18446744073709551616) = (if b < 9223372036854775808 then b else b - 18446744073709551616) := e
        split at e' <;> split at e' <;> omega
  simp only [impl_Compare.j0, ea, eb, Option.bind_some, Bool.false_eq_true, if_false] at h
  simp only [spec_Compare.j0, spec_Compare.j1, spec_Compare.j2, spec_Compare.j3, spec_Compare.j4, spec_Compare.j5, fa, fb, Option.bind_some, Bool.false_eq_true, if_false, beq_iff_eq]
  generalize sgn w a = s at *
  generalize sgn w b = t at *
  rw [← h]
  clear h ea eb fa fb
  have hcases : p = 1 ∨ p = 2 ∨ p = 3 ∨ p = 4 ∨ p = 5 ∨ p = 6 ∨ p = 7 ∨ p = 8 ∨ p = 9 ∨ p = 10 := by omega
  rcases hcases with rfl | rfl | rfl | rfl | rfl | rfl | rfl | rfl | rfl | rfl
  all_goals
    simp only [reduceCtorEq, if_true, if_false, Int.reduceLE, Int.reduceEq, ge_iff_le, gt_iff_lt, decide_eq_true_eq, decide_true, decide_false, Int.reduceBEq, Bool.false_eq_true]
    repeat' split
    all_goals first | rfl | (exfalso; omega)
theorem FnExactCompare : laws_FnExactCompare.Pure := by
  intro p w a b _ _ ha hb
  obtain ⟨h0, h1⟩ := pl_u64b ha
  obtain ⟨h2, h3⟩ := pl_u64b hb
  refine ⟨9, ?_⟩
  have e : ∃ x y, spec_Compare.f 9 p w a b = some (x, y) ∧ impl_Compare.f 9 p w a b = some (x, y) := by
    have t1 : spec_Compare.j0 9 p w a b true = some (3, 0) := by simp only [spec_Compare.j0, if_true]
    have t2 : impl_Compare.j0 9 p w a b true = some (3, 0) := by simp only [impl_Compare.j0, if_true]
    unfold spec_Compare.f impl_Compare.f
    rw [t1, t2]
    by_cases c1 : p < 1
    · rw [if_pos c1, if_pos c1]
      exact ⟨3, 0, rfl, rfl⟩
    rw [if_neg c1, if_neg c1]
    by_cases c2 : p > 10
    · rw [if_pos c2, if_pos c2]
      exact ⟨3, 0, rfl, rfl⟩
    rw [if_neg c2, if_neg c2, spec_is_at w a h0 h1, impl_is_at w a h0 h1, spec_is_at w b h2 h3, impl_is_at w b h2 h3]
    simp only [Option.bind_some]
    by_cases i1 : isB w a = true
    · rw [if_pos i1, if_pos i1]
      by_cases i2 : isB w b = true
      · rw [i2]
        have hx : ∃ z, impl_Compare.j0 9 p w a b false = some z := by
          simp only [impl_Compare.j0, impl_signed_at w a h0 h1, impl_signed_at w b h2 h3, Option.bind_some, Bool.false_eq_true, if_false]
          generalize (if isB w a = true then sgn w a else 0) = s
          generalize (if isB w b = true then sgn w b else 0) = t
          repeat' split
          all_goals exact ⟨_, rfl⟩
        obtain ⟨⟨x, y⟩, hz⟩ := hx
        exact ⟨x, y, spec_j0 p w a b h0 h1 h2 h3 (by omega) i1 i2 _ hz, hz⟩
      · have i2' : isB w b = false := by simpa using i2
        rw [i2']
        exact ⟨3, 0, t1, t2⟩
    · rw [if_neg i1, if_neg i1]
      exact ⟨3, 0, rfl, rfl⟩
  obtain ⟨x, y, e1, e2⟩ := e
  unfold laws_FnExactCompare.f
  rw [e1, e2]
  simp only [Option.bind_some, laws_eqWordResult.f, if_true]

end Go.Proofs.Ythfhenhlfedfmaa.Pure
