/- FormatWord: what the program's functions answer in plain Lean, the two texts of a number alike, and the walk of the program's FormatWord. -/
import Derived.Test.YtcjdgimiobhhnaaDoorQFnExactFormatWordx1
import Derived.Test.YtcjdgimiobhhnaaDoorQFnExactFormatWordx2
import Derived.Test.YtcjdgimiobhhnaaDoorShelf
import Derived.Laws.BitsAllLaws
import Derived.Laws.Bits64
import Derived.WalkKit
import Derived.Lib.AppendIntMem
namespace Go.Proofs.YtcjdgimiobhhnaaDoor
open Go.RowKit Go.Proofs.YtcjdgimiobhhnaaDoor.QFnExactFormatWord Go.Proofs.YtcjdgimiobhhnaaDoorW.PrintWords Go.Proofs.YtcjdgimiobhhnaaDoorW.PrintLast Go.Proofs.YtcjdgimiobhhnaaDoorW.PrintMore
set_option linter.unusedVariables false
set_option linter.unusedSimpArgs false
/-! plain words: masks, high bits, signs -/
theorem pl_u64b {n : Int} (h : (Lit.int .u64 n).wf = true) : 0 ≤ n ∧ n < 18446744073709551616 := by
  simp [Lit.wf, IntKind.min, IntKind.max, IntKind.signed, IntKind.bits] at h
  omega
theorem pl_i64b {n : Int} (h : (Lit.int .i64 n).wf = true) : -9223372036854775808 ≤ n ∧ n ≤ 9223372036854775807 := by
  simp [Lit.wf, IntKind.min, IntKind.max, IntKind.signed, IntKind.bits] at h
  omega
theorem pl_hi (v w : Nat) (hv : v < 2 ^ 64) (hw : w ≤ 64) : v &&& (18446744073709551615 - (2 ^ w - 1)) = v / 2 ^ w * 2 ^ w := by
  have h2 : (2 : Nat) ^ w ≤ 2 ^ 64 := Nat.pow_le_pow_right (by omega) hw
  have h1 : 0 < (2 : Nat) ^ w := Nat.pow_pos (by omega)
  have e : 18446744073709551615 - (2 ^ w - 1) = 2 ^ 64 - ((2 ^ w - 1) + 1) := by omega
  rw [e, ← Nat.shiftRight_eq_div_pow, ← Nat.shiftLeft_eq]
  apply Nat.eq_of_testBit_eq
  intro i
  rw [Nat.testBit_and, Nat.testBit_two_pow_sub_succ (by omega), Nat.testBit_two_pow_sub_one, Nat.testBit_shiftLeft, Nat.testBit_shiftRight]
  by_cases h64 : i < 64
  · by_cases hi : i < w
    · have hn : ¬ w ≤ i := by omega
      simp [h64, hi, hn]
    · have hi' : w ≤ i := by omega
      simp [h64, hi, hi', Nat.add_sub_cancel' hi']
  · have : v.testBit i = false := Nat.testBit_lt_two_pow (Nat.lt_of_lt_of_le hv (Nat.pow_le_pow_right (by omega) (by omega)))
    by_cases hi' : w ≤ i
    · simp [this, Nat.add_sub_cancel' hi']
    · simp [this, hi']
theorem pl_or (v w : Nat) (hv : v < 2 ^ w) (hw : w ≤ 64) : v ||| (2 ^ 64 - 2 ^ w) = v + (2 ^ 64 - 2 ^ w) := by
  have e : (2 : Nat) ^ 64 - 2 ^ w = (2 ^ (64 - w) - 1) <<< w := by
    rw [Nat.shiftLeft_eq, Nat.sub_mul, ← Nat.pow_add, Nat.sub_add_cancel hw, Nat.one_mul]
  rw [e, Nat.or_comm, ← Nat.shiftLeft_add_eq_or_of_lt hv, Nat.add_comm]
def wB (w : Int) : Bool := w == 1 || w == 8 || w == 16 || w == 32 || w == 64
def isB (w v : Int) : Bool := wB w && decide (v < 2 ^ w.toNat)
def sgn (w v : Int) : Int := if v < 2 ^ (w.toNat - 1) then v else v - 2 ^ w.toNat
theorem wB_cases {w : Int} (h : wB w = true) : w = 1 ∨ w = 8 ∨ w = 16 ∨ w = 32 ∨ w = 64 := by
  simpa [wB, or_assoc] using h
theorem wB_not {w : Int} (h : wB w = false) : ¬ w = 1 ∧ ¬ w = 8 ∧ ¬ w = 16 ∧ ¬ w = 32 ∧ ¬ w = 64 := by
  simpa [wB, and_assoc] using h
theorem spec_vw (w : Int) : spec_ValidWidth.f w = some (wB w) := by
  by_cases h1 : w = 1
  · subst h1
    rfl
  by_cases h8 : w = 8
  · subst h8
    rfl
  by_cases h16 : w = 16
  · subst h16
    rfl
  by_cases h32 : w = 32
  · subst h32
    rfl
  have e1 : (w == 1) = false := by simpa using h1
  have e8 : (w == 8) = false := by simpa using h8
  have e16 : (w == 16) = false := by simpa using h16
  have e32 : (w == 32) = false := by simpa using h32
  simp only [spec_ValidWidth.f, if_neg h1, if_neg h8, if_neg h16, if_neg h32, wB, e1, e8, e16, e32, Bool.false_or]
theorem impl_vw (w : Int) : impl_ValidWidth.f w = some (wB w) := by
  by_cases h1 : w = 1
  · subst h1
    rfl
  by_cases h8 : w = 8
  · subst h8
    rfl
  by_cases h16 : w = 16
  · subst h16
    rfl
  by_cases h32 : w = 32
  · subst h32
    rfl
  have e1 : (w == 1) = false := by simpa using h1
  have e8 : (w == 8) = false := by simpa using h8
  have e16 : (w == 16) = false := by simpa using h16
  have e32 : (w == 32) = false := by simpa using h32
  simp only [impl_ValidWidth.f, if_neg h1, if_neg h8, if_neg h16, if_neg h32, wB, e1, e8, e16, e32, Bool.false_or]
theorem spec_mask_at {w : Int} (h : wB w = true) : spec_l1Mask.f w = some (2 ^ w.toNat - 1) := by
  rcases wB_cases h with rfl | rfl | rfl | rfl | rfl <;> decide +kernel
theorem spec_cut_at {w v : Int} (h : wB w = true) (h0 : 0 ≤ v) (h1 : v < 18446744073709551616) : spec_Cut.f w v = some (v % 2 ^ w.toNat) := by
  unfold spec_Cut.f
  rw [spec_vw, h, spec_mask_at h]
  obtain ⟨n, rfl⟩ := Int.eq_ofNat_of_zero_le h0
  simp only [Option.bind_some, if_true]
  have hm : ∀ k : Nat, k ≤ 64 → Go.bits .and .u64 (n : Int) (2 ^ k - 1) = (n : Int) % 2 ^ k := by
    intro k hk
    have h2 : (2 : Nat) ^ k ≤ 2 ^ 64 := Nat.pow_le_pow_right (by omega) hk
    have hp : 0 < (2 : Nat) ^ k := Nat.pow_pos (by omega)
    have e : ((2 : Int) ^ k - 1) = ((2 ^ k - 1 : Nat) : Int) := by
      rw [Int.natCast_sub hp]
      simp
    rw [e, u64_and_nat n (2 ^ k - 1) (by omega) (by omega), Nat.and_two_pow_sub_one_eq_mod]
    simp
  have hk : w.toNat ≤ 64 := by
    rcases wB_cases h with rfl | rfl | rfl | rfl | rfl <;> decide
  rw [hm w.toNat hk]
theorem spec_cut_no {w v : Int} (h : wB w = false) : spec_Cut.f w v = some 0 := by
  unfold spec_Cut.f
  rw [spec_vw, h]
  rfl
theorem spec_is_at (w v : Int) (h0 : 0 ≤ v) (h1 : v < 18446744073709551616) : spec_l1Is.f w v = some (isB w v) := by
  unfold spec_l1Is.f isB
  rw [spec_vw]
  cases h : wB w with
  | false => rfl
  | true =>
    simp only [Option.bind_some, if_true, Bool.true_and]
    rw [spec_cut_at h h0 h1]
    simp only [Option.bind_some, Option.some.injEq]
    rw [Bool.eq_iff_iff]
    simp only [beq_iff_eq, decide_eq_true_eq]
    have hp : (0 : Int) < 2 ^ w.toNat := Int.pow_pos (by omega)
    constructor
    · intro e
      rw [e]
      exact Int.emod_lt_of_pos v hp
    · intro e
      exact (Int.emod_eq_of_lt h0 e).symm
theorem spec_signed_at (w v : Int) (h0 : 0 ≤ v) (h1 : v < 18446744073709551616) : spec_Signed.f w v = some (if isB w v = true then sgn w v else 0) := by
  unfold spec_Signed.f
  rw [spec_is_at w v h0 h1]
  cases hi : isB w v with
  | false => rfl
  | true =>
    simp only [Option.bind_some, if_true]
    have hw : wB w = true := by
      unfold isB at hi
      exact (Bool.and_eq_true _ _ ▸ hi).1
    have hv : v < 2 ^ w.toNat := by
      unfold isB at hi
      exact of_decide_eq_true (Bool.and_eq_true _ _ ▸ hi).2
    have htop : spec_l1Top.f w v = some (decide (2 ^ (w.toNat - 1) ≤ v)) := by
      unfold spec_l1Top.f
      rcases wB_cases hw with rfl | rfl | rfl | rfl | rfl
      · rw [if_pos (by decide +kernel), show IntKind.u64.wrap (wrap64 (1 - 1)) = 0 from by decide +kernel]
        have hv' : v < 2 := hv
        show some (v / 1 == 1) = some (decide (1 ≤ v))
        congr 1
        rw [Bool.eq_iff_iff]
        simp only [beq_iff_eq, decide_eq_true_eq]
        omega
      · rw [if_pos (by decide +kernel), show IntKind.u64.wrap (wrap64 (8 - 1)) = 7 from by decide +kernel]
        have hv' : v < 256 := hv
        show some (v / 128 == 1) = some (decide (128 ≤ v))
        congr 1
        rw [Bool.eq_iff_iff]
        simp only [beq_iff_eq, decide_eq_true_eq]
        omega
      · rw [if_pos (by decide +kernel), show IntKind.u64.wrap (wrap64 (16 - 1)) = 15 from by decide +kernel]
        have hv' : v < 65536 := hv
        show some (v / 32768 == 1) = some (decide (32768 ≤ v))
        congr 1
        rw [Bool.eq_iff_iff]
        simp only [beq_iff_eq, decide_eq_true_eq]
        omega
      · rw [if_pos (by decide +kernel), show IntKind.u64.wrap (wrap64 (32 - 1)) = 31 from by decide +kernel]
        have hv' : v < 4294967296 := hv
        show some (v / 2147483648 == 1) = some (decide (2147483648 ≤ v))
        congr 1
        rw [Bool.eq_iff_iff]
        simp only [beq_iff_eq, decide_eq_true_eq]
        omega
      · rw [if_pos (by decide +kernel), show IntKind.u64.wrap (wrap64 (64 - 1)) = 63 from by decide +kernel]
        have hv' : v < 18446744073709551616 := hv
        show some (v / 9223372036854775808 == 1) = some (decide (9223372036854775808 ≤ v))
        congr 1
        rw [Bool.eq_iff_iff]
        simp only [beq_iff_eq, decide_eq_true_eq]
        omega
    rw [htop, spec_mask_at hw]
    obtain ⟨n, rfl⟩ := Int.eq_ofNat_of_zero_le h0
    unfold sgn
    simp only [Option.bind_some, decide_eq_true_eq]
    by_cases ht : (2 : Int) ^ (w.toNat - 1) ≤ (n : Int)
    · rw [if_pos ht, if_neg (by omega)]
      congr 1
      rcases wB_cases hw with rfl | rfl | rfl | rfl | rfl
      · have hv' : (n : Int) < 2 := hv
        rw [show Go.bits .xor .u64 18446744073709551615 (2 ^ ((1 : Int)).toNat - 1) = ((18446744073709551614 : Nat) : Int) from by decide +kernel, u64_or_nat n 18446744073709551614 (by omega) (by omega), show (18446744073709551614 : Nat) = 2 ^ 64 - 2 ^ 1 from by decide +kernel, pl_or n 1 (by show n < 2; omega) (by omega)]
        show wrap64 (((n + 18446744073709551614 : Nat)) : Int) = (n : Int) - 2
        have ht' : (1 : Int) ≤ (n : Int) := ht
        unfold wrap64
        omega
      · have hv' : (n : Int) < 256 := hv
        rw [show Go.bits .xor .u64 18446744073709551615 (2 ^ ((8 : Int)).toNat - 1) = ((18446744073709551360 : Nat) : Int) from by decide +kernel, u64_or_nat n 18446744073709551360 (by omega) (by omega), show (18446744073709551360 : Nat) = 2 ^ 64 - 2 ^ 8 from by decide +kernel, pl_or n 8 (by show n < 256; omega) (by omega)]
        show wrap64 (((n + 18446744073709551360 : Nat)) : Int) = (n : Int) - 256
        have ht' : (128 : Int) ≤ (n : Int) := ht
        unfold wrap64
        omega
      · have hv' : (n : Int) < 65536 := hv
        rw [show Go.bits .xor .u64 18446744073709551615 (2 ^ ((16 : Int)).toNat - 1) = ((18446744073709486080 : Nat) : Int) from by decide +kernel, u64_or_nat n 18446744073709486080 (by omega) (by omega), show (18446744073709486080 : Nat) = 2 ^ 64 - 2 ^ 16 from by decide +kernel, pl_or n 16 (by show n < 65536; omega) (by omega)]
        show wrap64 (((n + 18446744073709486080 : Nat)) : Int) = (n : Int) - 65536
        have ht' : (32768 : Int) ≤ (n : Int) := ht
        unfold wrap64
        omega
      · have hv' : (n : Int) < 4294967296 := hv
        rw [show Go.bits .xor .u64 18446744073709551615 (2 ^ ((32 : Int)).toNat - 1) = ((18446744069414584320 : Nat) : Int) from by decide +kernel, u64_or_nat n 18446744069414584320 (by omega) (by omega), show (18446744069414584320 : Nat) = 2 ^ 64 - 2 ^ 32 from by decide +kernel, pl_or n 32 (by show n < 4294967296; omega) (by omega)]
        show wrap64 (((n + 18446744069414584320 : Nat)) : Int) = (n : Int) - 4294967296
        have ht' : (2147483648 : Int) ≤ (n : Int) := ht
        unfold wrap64
        omega
      · have hv' : (n : Int) < 18446744073709551616 := hv
        rw [show Go.bits .xor .u64 18446744073709551615 (2 ^ ((64 : Int)).toNat - 1) = ((0 : Nat) : Int) from by decide +kernel, u64_or_nat n 0 (by omega) (by omega), show (0 : Nat) = 2 ^ 64 - 2 ^ 64 from by decide +kernel, pl_or n 64 (by show n < 18446744073709551616; omega) (by omega)]
        show wrap64 (((n + 0 : Nat)) : Int) = (n : Int) - 18446744073709551616
        have ht' : (9223372036854775808 : Int) ≤ (n : Int) := ht
        unfold wrap64
        omega
    · rw [if_neg ht, if_pos (by omega)]
      congr 1
      rcases wB_cases hw with rfl | rfl | rfl | rfl | rfl
      · have ht' : ¬ (1 : Int) ≤ (n : Int) := ht
        unfold wrap64
        omega
      · have ht' : ¬ (128 : Int) ≤ (n : Int) := ht
        unfold wrap64
        omega
      · have ht' : ¬ (32768 : Int) ≤ (n : Int) := ht
        unfold wrap64
        omega
      · have ht' : ¬ (2147483648 : Int) ≤ (n : Int) := ht
        unfold wrap64
        omega
      · have ht' : ¬ (9223372036854775808 : Int) ≤ (n : Int) := ht
        unfold wrap64
        omega
theorem impl_mask_at {w : Int} (h : wB w = true) : impl_mask.f w = some (2 ^ w.toNat - 1) := by
  rcases wB_cases h with rfl | rfl | rfl | rfl | rfl <;> decide +kernel
theorem impl_is_at (w v : Int) (h0 : 0 ≤ v) (h1 : v < 18446744073709551616) : impl_isWord.f w v = some (isB w v) := by
  unfold impl_isWord.f isB
  rw [impl_vw]
  cases h : wB w with
  | false => rfl
  | true =>
    simp only [Option.bind_some, if_true, Bool.true_and]
    rw [impl_mask_at h]
    obtain ⟨n, rfl⟩ := Int.eq_ofNat_of_zero_le h0
    simp only [Option.bind_some, Option.some.injEq]
    rw [Bool.eq_iff_iff]
    simp only [beq_iff_eq, decide_eq_true_eq]
    rcases wB_cases h with rfl | rfl | rfl | rfl | rfl
    · rw [show ((2 : Int) ^ ((1 : Int)).toNat - 1) = ((1 : Nat) : Int) from by decide +kernel, u64_andNot_nat n 1 (by omega) (by omega), show (1 : Nat) = 2 ^ 1 - 1 from by decide +kernel, pl_hi n 1 (by show n < 18446744073709551616; omega) (by omega)]
      show ((n / 2 * 2 : Nat) : Int) = 0 ↔ (n : Int) < 2
      omega
    · rw [show ((2 : Int) ^ ((8 : Int)).toNat - 1) = ((255 : Nat) : Int) from by decide +kernel, u64_andNot_nat n 255 (by omega) (by omega), show (255 : Nat) = 2 ^ 8 - 1 from by decide +kernel, pl_hi n 8 (by show n < 18446744073709551616; omega) (by omega)]
      show ((n / 256 * 256 : Nat) : Int) = 0 ↔ (n : Int) < 256
      omega
    · rw [show ((2 : Int) ^ ((16 : Int)).toNat - 1) = ((65535 : Nat) : Int) from by decide +kernel, u64_andNot_nat n 65535 (by omega) (by omega), show (65535 : Nat) = 2 ^ 16 - 1 from by decide +kernel, pl_hi n 16 (by show n < 18446744073709551616; omega) (by omega)]
      show ((n / 65536 * 65536 : Nat) : Int) = 0 ↔ (n : Int) < 65536
      omega
    · rw [show ((2 : Int) ^ ((32 : Int)).toNat - 1) = ((4294967295 : Nat) : Int) from by decide +kernel, u64_andNot_nat n 4294967295 (by omega) (by omega), show (4294967295 : Nat) = 2 ^ 32 - 1 from by decide +kernel, pl_hi n 32 (by show n < 18446744073709551616; omega) (by omega)]
      show ((n / 4294967296 * 4294967296 : Nat) : Int) = 0 ↔ (n : Int) < 4294967296
      omega
    · rw [show ((2 : Int) ^ ((64 : Int)).toNat - 1) = ((18446744073709551615 : Nat) : Int) from by decide +kernel, u64_andNot_nat n 18446744073709551615 (by omega) (by omega), show (18446744073709551615 : Nat) = 2 ^ 64 - 1 from by decide +kernel, pl_hi n 64 (by show n < 18446744073709551616; omega) (by omega)]
      show ((n / 18446744073709551616 * 18446744073709551616 : Nat) : Int) = 0 ↔ (n : Int) < 18446744073709551616
      omega
theorem impl_signed_at (w v : Int) (h0 : 0 ≤ v) (h1 : v < 18446744073709551616) : impl_Signed.f w v = some (if isB w v = true then sgn w v else 0) := by
  unfold impl_Signed.f
  rw [impl_is_at w v h0 h1]
  cases hi : isB w v with
  | false => rfl
  | true =>
    simp only [Option.bind_some, if_true]
    have hw : wB w = true := by
      unfold isB at hi
      exact (Bool.and_eq_true _ _ ▸ hi).1
    have hv : v < 2 ^ w.toNat := by
      unfold isB at hi
      exact of_decide_eq_true (Bool.and_eq_true _ _ ▸ hi).2
    rcases wB_cases hw with rfl | rfl | rfl | rfl | rfl
    · rw [if_pos (by decide +kernel), show wrap64 (64 - 1) = 63 from by decide +kernel]
      have hv' : v < 2 := hv
      show some (wrap64 (IntKind.u64.wrap (v * 9223372036854775808)) / 9223372036854775808) = some (if v < 1 then v else v - 2)
      rw [IntKind.wrap_u64]
      congr 1
      unfold wrap64
      split <;> omega
    · rw [if_pos (by decide +kernel), show wrap64 (64 - 8) = 56 from by decide +kernel]
      have hv' : v < 256 := hv
      show some (wrap64 (IntKind.u64.wrap (v * 72057594037927936)) / 72057594037927936) = some (if v < 128 then v else v - 256)
      rw [IntKind.wrap_u64]
      congr 1
      unfold wrap64
      split <;> omega
    · rw [if_pos (by decide +kernel), show wrap64 (64 - 16) = 48 from by decide +kernel]
      have hv' : v < 65536 := hv
      show some (wrap64 (IntKind.u64.wrap (v * 281474976710656)) / 281474976710656) = some (if v < 32768 then v else v - 65536)
      rw [IntKind.wrap_u64]
      congr 1
      unfold wrap64
      split <;> omega
    · rw [if_pos (by decide +kernel), show wrap64 (64 - 32) = 32 from by decide +kernel]
      have hv' : v < 4294967296 := hv
      show some (wrap64 (IntKind.u64.wrap (v * 4294967296)) / 4294967296) = some (if v < 2147483648 then v else v - 4294967296)
      rw [IntKind.wrap_u64]
      congr 1
      unfold wrap64
      split <;> omega
    · rw [if_pos (by decide +kernel), show wrap64 (64 - 64) = 0 from by decide +kernel]
      have hv' : v < 18446744073709551616 := hv
      show some (wrap64 (IntKind.u64.wrap (v * 1)) / 1) = some (if v < 9223372036854775808 then v else v - 18446744073709551616)
      rw [IntKind.wrap_u64]
      congr 1
      unfold wrap64
      split <;> omega
theorem dec_len : ∀ (n : Nat), n < 18446744073709551616 → (Lib.decDigits n).length ≤ 1000 := by
  have main : ∀ (d n : Nat), n < 10 ^ d → (Lib.decDigits n).length ≤ d + 1 := by
    intro d
    induction d with
    | zero =>
      intro n hn
      rw [Lib.decDigits, dif_pos (by omega)]
      simp
    | succ d ih =>
      intro n hn
      rw [Lib.decDigits]
      split
      · simp
      · have := ih (n / 10) (by rw [Nat.div_lt_iff_lt_mul (by omega), ← Nat.pow_succ]; exact hn)
        simp
        omega
  intro n hn
  have := main 20 n (by omega)
  omega
theorem wrap64_id {x : Int} (h0 : -9223372036854775808 ≤ x) (h1 : x ≤ 9223372036854775807) : wrap64 x = x := by
  unfold wrap64
  omega
/-- The specification's decimal text is the library's. -/
theorem dec_ev : ∀ (n : Nat), n < 18446744073709551616 → Ev (fun k => spec_l1Decimal.f k (n : Int)) ⟨(Lib.decDigits n).toArray⟩ := by
  intro n
  induction n using Nat.strongRecOn with
  | _ n ih =>
    intro hn
    have dig : ∀ m : Nat, m < 10 → strOfNums [IntKind.u64.wrap (48 + (m : Int)) % 256] = ⟨[UInt8.ofNat (48 + m)].toArray⟩ := by
      intro m hm
      have : m = 0 ∨ m = 1 ∨ m = 2 ∨ m = 3 ∨ m = 4 ∨ m = 5 ∨ m = 6 ∨ m = 7 ∨ m = 8 ∨ m = 9 := by omega
      rcases this with rfl | rfl | rfl | rfl | rfl | rfl | rfl | rfl | rfl | rfl <;> decide +kernel
    rw [Lib.decDigits]
    by_cases h : n < 10
    · rw [dif_pos h]
      refine Ev.step (f := fun _ => some ⟨[UInt8.ofNat (48 + n)].toArray⟩) (fun k => ?_) ⟨0, fun _ _ => rfl⟩
      simp only [spec_l1Decimal.f]
      rw [if_pos (by omega), dig n h]
    · rw [dif_neg h]
      have e1 : IntKind.u64.wrap (Int.tdiv (n : Int) 10) = ((n / 10 : Nat) : Int) := by
        rw [Int.tdiv_eq_ediv_of_nonneg (by omega), IntKind.wrap_u64]
        omega
      have e2 : Int.tmod (n : Int) 10 = ((n % 10 : Nat) : Int) := by
        rw [Int.tmod_eq_emod_of_nonneg (by omega)]
        omega
      have q := ih (n / 10) (by omega) (by omega)
      have hl := dec_len (n / 10) (by omega)
      refine Ev.step (fun k => ?_) (Ev.bind (f := fun _ (t : ByteArray) => if t.size + 1 ≤ 9223372036854775807 then some (t ++ ⟨[UInt8.ofNat (48 + n % 10)].toArray⟩) else none) q (Ev.congr (f := fun _ => some ⟨(Lib.decDigits (n / 10) ++ [UInt8.ofNat (48 + n % 10)]).toArray⟩) (fun k => ?_) ⟨0, fun _ _ => rfl⟩))
      · simp only [spec_l1Decimal.f, Option.bind_some]
        rw [if_neg (by omega), e1, e2, dig (n % 10) (by omega)]
        rfl
      · rw [if_pos (by
          have : (ByteArray.mk (Lib.decDigits (n / 10)).toArray).size = (Lib.decDigits (n / 10)).length := by simp [ByteArray.size]
          omega)]
        congr 1
        (try (apply ByteArray.ext; simp))
/-- The text of a word. -/
def fwText (w v : Int) : ByteArray := if isB w v = true then (if w > 1 ∧ sgn w v < 0 then (⟨#[45]⟩ : ByteArray) ++ ⟨(Lib.decDigits (-(sgn w v)).toNat).toArray⟩ else ⟨(Lib.decDigits v.toNat).toArray⟩) else ⟨#[]⟩
theorem isB_wB {w v : Int} (h : isB w v = true) : wB w = true ∧ v < 2 ^ w.toNat := by
  unfold isB at h
  rw [Bool.and_eq_true] at h
  exact ⟨h.1, of_decide_eq_true h.2⟩
theorem sgn_bd {w v : Int} (h : isB w v = true) (h0 : 0 ≤ v) : -9223372036854775808 ≤ sgn w v ∧ sgn w v ≤ 9223372036854775807 ∧ (0 ≤ sgn w v → sgn w v = v) ∧ (w = 1 → v < 2) := by
  obtain ⟨hw, hv⟩ := isB_wB h
  rcases wB_cases hw with rfl | rfl | rfl | rfl | rfl
  · have hv' : v < 2 := hv
    have : sgn 1 v = if v < 1 then v else v - 2 := rfl
    rw [this]
    split <;> omega
  · have hv' : v < 256 := hv
    have : sgn 8 v = if v < 128 then v else v - 256 := rfl
    rw [this]
    split <;> omega
  · have hv' : v < 65536 := hv
    have : sgn 16 v = if v < 32768 then v else v - 65536 := rfl
    rw [this]
    split <;> omega
  · have hv' : v < 4294967296 := hv
    have : sgn 32 v = if v < 2147483648 then v else v - 4294967296 := rfl
    rw [this]
    split <;> omega
  · have hv' : v < 18446744073709551616 := hv
    have : sgn 64 v = if v < 9223372036854775808 then v else v - 18446744073709551616 := rfl
    rw [this]
    split <;> omega
theorem spec_fw_ev (w v : Int) (h0 : 0 ≤ v) (h1 : v < 18446744073709551616) : Ev (fun k => spec_FormatWord.f k w v) (fwText w v) := by
  unfold spec_FormatWord.f fwText
  rw [spec_is_at w v h0 h1]
  cases hi : isB w v with
  | false =>
    simp only [Option.bind_some, Bool.false_eq_true, if_false]
    exact ⟨0, fun _ _ => rfl⟩
  | true =>
    simp only [Option.bind_some, if_true]
    rw [spec_signed_at w v h0 h1, hi]
    simp only [if_true, Option.bind_some]
    obtain ⟨b1, b2, b3, b4⟩ := sgn_bd hi h0
    obtain ⟨u, rfl⟩ := Int.eq_ofNat_of_zero_le h0
    have dv := dec_ev u (by omega)
    have no : Ev (fun k => spec_FormatWord.j0 k (u : Int) (sgn w (u : Int)) false) ⟨(Lib.decDigits u).toArray⟩ := by
      refine Ev.step (fun k => ?_) (Ev.bind (f := fun _ (t : ByteArray) => some t) dv ⟨0, fun _ _ => rfl⟩)
      simp only [spec_FormatWord.j0, Bool.false_eq_true, if_false]
    by_cases hw : w > 1
    · simp only [if_pos hw]
      by_cases hs : sgn w (u : Int) < 0
      · rw [decide_eq_true hs, if_pos ⟨hw, hs⟩]
        have sz : spec_l1Size.f (sgn w (u : Int)) = some (((-(sgn w (u : Int))).toNat : Nat) : Int) := by
          unfold spec_l1Size.f
          rw [if_pos hs, wrap64_id (x := sgn w (u : Int) + 1) (by omega) (by omega), wrap64_id (by omega) (by omega), IntKind.wrap_u64, IntKind.wrap_u64]
          congr 1
          omega
        have dn := dec_ev (-(sgn w (u : Int))).toNat (by omega)
        have hl := dec_len (-(sgn w (u : Int))).toNat (by omega)
        refine Ev.step (fun k => ?_) (Ev.bind (f := fun _ (t : ByteArray) => if 1 + t.size ≤ 9223372036854775807 then some ((⟨#[45]⟩ : ByteArray) ++ t) else none) dn (Ev.congr (f := fun _ => some ((⟨#[45]⟩ : ByteArray) ++ ⟨(Lib.decDigits (-(sgn w (u : Int))).toNat).toArray⟩)) (fun k => ?_) ⟨0, fun _ _ => rfl⟩))
        · simp only [spec_FormatWord.j0, if_true]
          rw [sz]
          rfl
        · rw [if_pos (by
            have : (ByteArray.mk (Lib.decDigits (-(sgn w (u : Int))).toNat).toArray).size = (Lib.decDigits (-(sgn w (u : Int))).toNat).length := by simp [ByteArray.size]
            omega)]
      · rw [decide_eq_false hs, if_neg (by rintro ⟨_, h⟩; exact hs h), Int.toNat_natCast]
        exact no
    · simp only [if_neg hw]
      rw [if_neg (by rintro ⟨h, _⟩; exact hw h), Int.toNat_natCast]
      exact no
/-- The library's text of a signed number is the same. -/
theorem itoa_fw {w v : Int} (hi : isB w v = true) (h0 : 0 ≤ v) (hw : ¬ w = 1) : (⟨(Lib.itoa (sgn w v)).toArray⟩ : ByteArray) = fwText w v := by
  obtain ⟨b1, b2, b3, b4⟩ := sgn_bd hi h0
  have hw1 : w > 1 := by
    rcases wB_cases (isB_wB hi).1 with rfl | rfl | rfl | rfl | rfl
    · exact absurd rfl hw
    all_goals decide
  unfold fwText Lib.itoa
  rw [if_pos hi]
  by_cases hs : sgn w v < 0
  · rw [if_pos hs, if_pos ⟨hw1, hs⟩, show (sgn w v).natAbs = (-(sgn w v)).toNat by omega]
    apply ByteArray.ext
    simp
  · rw [if_neg hs, if_neg (by rintro ⟨_, h⟩; exact hs h), b3 (by omega)]
theorem one_fw {v : Int} (hi : isB 1 v = true) (h0 : 0 ≤ v) : (⟨(Lib.decDigits v.toNat).toArray⟩ : ByteArray) = fwText 1 v := by
  unfold fwText
  rw [if_pos hi, if_neg (by rintro ⟨h, _⟩; exact absurd h (by decide))]
/-! the walks -/
theorem uint_small (n : Nat) (hn : n < 100) (w : World) : Calls Tryd.prog 16 #[.int .u64 n, .int .i64 10] w fun e w' => e = .returned (.string ⟨(Lib.decDigits n).toArray⟩) ∧ w' = w := by
  go_enter Tryd.func16, Tryd.ntmps16
  go_wp2_with (first | (go_at_call 25; refine (Tryd.internal_strconv_small n hn _).mono ?_; rintro e w' ⟨rfl, rfl⟩) | go_in)
  go_ret
  exact ⟨rfl, rfl⟩
theorem grow_below (w : World) (k : Nat) (os : Array Obj) : Below w.heap.size w (Go.Sort.grow (w.drewN k) os) := Go.Lib.below_grow _ _ (Nat.le_refl _) _ _
theorem tab_below {W W1 : World} (hb : Below W.heap.size W W1) (h : Lib.TabIs Tryd.prog W "internal/strconv.uint64pow10" .u64 Lib.pow10Tab) : Lib.TabIs Tryd.prog W1 "internal/strconv.uint64pow10" .u64 Lib.pow10Tab := by
  unfold Lib.TabIs at h ⊢
  unfold World.var? at h ⊢
  obtain ⟨g, hg, h2⟩ := Option.bind_eq_some_iff.1 h
  rw [hg, Option.bind_some]
  have hlt : g < W.heap.size := by
    cases hh : W.heap[g]? with
    | none =>
      rw [hh] at h2
      cases h2
    | some o => exact (Array.getElem?_eq_some_iff.1 hh).1
  rw [hb.block g hlt]
  exact h2
theorem impl_no (w v : Int) (W : World) (h0 : 0 ≤ v) (h1 : v < 18446744073709551616) (hi : isB w v = false) : Calls Tryd.prog 8 #[.int .i64 w, .int .u64 v] W fun e w' => e = .returned (.string ⟨#[]⟩) ∧ Below W.heap.size W w' := by
  have A := impl_is_at w v h0 h1
  rw [hi] at A
  have A1 := Aside0.mk A
  clear A
  go_enter Tryd.func8, Tryd.ntmps8
  go_wp2_with (first | (go_at_call 15; refine (impl_isWord.calls w v false _ A1.out).mono ?_; rintro e w' ⟨rfl, hd⟩))
  go_ret
  exact ⟨rfl, hd.below⟩
theorem impl_one (v : Nat) (W : World) (hi : isB 1 (v : Int) = true) (hv : v < 100) : Calls Tryd.prog 8 #[.int .i64 1, .int .u64 v] W fun e w' => e = .returned (.string ⟨(Lib.decDigits v).toArray⟩) ∧ Below W.heap.size W w' := by
  have A := impl_is_at 1 (v : Int) (by omega) (by omega)
  rw [hi] at A
  have A1 := Aside0.mk A
  clear A
  go_enter Tryd.func8, Tryd.ntmps8
  go_wp2_with (first | (go_at_call 15; refine (impl_isWord.calls 1 (v : Int) true _ A1.out).mono ?_; rintro e w1 ⟨rfl, hd⟩) | (go_at_call 16; refine (uint_small v hv _).mono ?_; rintro e w2 ⟨rfl, rfl⟩))
  go_ret
  exact ⟨rfl, hd.below⟩
theorem impl_yes (w v : Int) (W : World) (h0 : 0 ≤ v) (h1 : v < 18446744073709551616) (hi : isB w v = true) (hw : ¬ w = 1) (htab : Lib.TabIs Tryd.prog W "internal/strconv.uint64pow10" .u64 Lib.pow10Tab) : Calls Tryd.prog 8 #[.int .i64 w, .int .u64 v] W fun e w' => e = .returned (.string ⟨(Lib.itoa (sgn w v)).toArray⟩) ∧ Below W.heap.size W w' := by
  have A := impl_is_at w v h0 h1
  rw [hi] at A
  have A1 := Aside0.mk A
  have B := impl_signed_at w v h0 h1
  rw [hi, if_pos rfl] at B
  have B1 := Aside0.mk B
  obtain ⟨b1, b2, _, _⟩ := sgn_bd hi h0
  have hT := Aside0.mk htab
  have hwb : (w == 1) = false := beq_eq_false_iff_ne.mpr hw
  obtain ⟨s, hs⟩ : ∃ s, s = sgn w v := ⟨_, rfl⟩
  rw [← hs] at B1 b1 b2 ⊢
  clear A B htab hs
  go_enter Tryd.func8, Tryd.ntmps8
  go_wp2_with (first | (go_at_call 15; refine (impl_isWord.calls w v true _ A1.out).mono ?_; rintro e w1 ⟨rfl, hd⟩) | (go_at_call 17; refine (impl_Signed.calls w v s _ B1.out).mono ?_; rintro e w2 ⟨rfl, hd2⟩) | (go_at_call 10; refine (Tryd.strconv_FormatInt_10 s b1 b2 _ (tab_below (below_step hd.below hd2.below) hT.out)).mono ?_; rintro e w3 ⟨rfl, hk⟩))
  go_ret
  obtain ⟨k, os, rfl⟩ := hk
  exact ⟨rfl, below_step (below_step hd.below hd2.below) (grow_below _ _ _)⟩
end Go.Proofs.YtcjdgimiobhhnaaDoor
