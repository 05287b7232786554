/- FnBits's plain law: whatever the bytes from which the numbers are drawn, what is put one behind the other is read again in order, in as few pieces as it can be; conditions: none but the bounds that the row gives. -/
import Derived.Test.YthfhenhlfedfmaaQFnBitsx4
import Derived.Test.YthfhenhlfedfmaaPlGen
import Derived.Laws.BitsAllLaws
import Derived.Laws.Bits64
namespace Go.Proofs.Ythfhenhlfedfmaa.Pure
open Go.RowKit Go.Proofs.Ythfhenhlfedfmaa.QFnBits Go.Proofs.YthfhenhlfedfmaaW.PrintWords Go.Proofs.YthfhenhlfedfmaaW.PrintLast Go.Proofs.Ythfhenhlfedfmaa.PlGen
set_option linter.unusedSimpArgs false
set_option linter.unusedVariables false
set_option linter.unusedSectionVars false
set_option maxHeartbeats 4000000

/-! bits: which are well formed, and reading them -/
theorem u64w {n : Int} (h0 : 0 ≤ n) (h1 : n ≤ 9223372036854775807) : IntKind.u64.wrap n = n := by
  rw [show IntKind.u64.wrap n = n % 18446744073709551616 by simp [IntKind.wrap, IntKind.bits, IntKind.signed]]
  omega
/-- The bytes and the count belong together. -/
def okB (l : List Int) (c : Int) : Bool := decide (0 ≤ c ∧ c ≤ 8388608 ∧ (l.length : Int) = (c + 7) / 8 ∧ (c % 8 = 0 ∨ shr .u8 (rd l ((l.length : Int) - 1)) (c % 8) = 0))
theorem okB_c {l : List Int} {c : Int} (h : okB l c = true) : 0 ≤ c ∧ c ≤ 8388608 ∧ (l.length : Int) = (c + 7) / 8 := by
  simp only [okB, decide_eq_true_eq] at h
  omega
theorem tdiv_far {c : Int} (h0 : 9223372036854775800 < c) (h1 : c ≤ 9223372036854775807) : wrap64 (Int.tdiv (wrap64 (c + 7)) 8) < 0 := by
  have e : wrap64 (c + 7) = -(18446744073709551616 - (c + 7)) := by
    unfold wrap64
    omega
  rw [e, Int.neg_tdiv, Int.tdiv_eq_ediv_of_nonneg (by omega)]
  unfold wrap64
  omega
theorem tdiv_near {c : Int} (h0 : 0 ≤ c) (h1 : c ≤ 9223372036854775800) : wrap64 (Int.tdiv (wrap64 (c + 7)) 8) = (c + 7) / 8 := by
  rw [wrap64_id (x := c + 7) (by omega) (by omega), Int.tdiv_eq_ediv_of_nonneg (by omega), wrap64_id (by omega) (by omega)]

theorem impl_ok_at (l : List Int) (c : Int) (hl : l.length ≤ 1048576) (hc : -9223372036854775808 ≤ c ∧ c ≤ 9223372036854775807) (k : Nat) : impl_bitsOk.f (k + 1) l c = some (okB l c) := by
  have no : ¬ (0 ≤ c ∧ c ≤ 8388608 ∧ (l.length : Int) = (c + 7) / 8) → okB l c = false := by
    intro h
    simp only [okB, decide_eq_false_iff_not]
    omega
  unfold impl_bitsOk.f
  by_cases h1 : c < 0
  · rw [if_pos h1, no (by omega)]
    simp only [impl_bitsOk.j0, if_true]
  rw [if_neg h1]
  have e : wrap64 ((wrap64 (Int.tdiv c 8)) + (wrap64 (Int.tdiv (wrap64 ((Int.tmod c 8) + 7)) 8))) = c / 8 + (c % 8 + 7) / 8 := by
    rw [Int.tdiv_eq_ediv_of_nonneg (show 0 ≤ c by omega), Int.tmod_eq_emod_of_nonneg (show 0 ≤ c by omega), wrap64_id (x := c % 8 + 7) (by omega) (by omega), Int.tdiv_eq_ediv_of_nonneg (by omega), wrap64_id (x := c / 8) (by omega) (by omega), wrap64_id (x := (c % 8 + 7) / 8) (by omega) (by omega), wrap64_id (by omega) (by omega)]
  rw [e]
  by_cases h2 : (l.length : Int) = c / 8 + (c % 8 + 7) / 8
  · have h3 : ((l.length : Int) != c / 8 + (c % 8 + 7) / 8) = false := by
      rw [h2]
      exact bne_self_eq_false _
    rw [h3]
    simp only [impl_bitsOk.j0, Bool.false_eq_true, if_false, Int.tmod_eq_emod_of_nonneg (show 0 ≤ c by omega)]
    by_cases h5 : c % 8 = 0
    · rw [if_neg (by omega)]
      have : okB l c = true := by
        simp only [okB, decide_eq_true_eq]
        omega
      rw [this]
    rw [if_pos (by omega), wrap64_id (x := (l.length : Int) - 1) (by omega) (by omega), if_pos (by omega), if_pos (by omega), if_pos (by omega)]
    by_cases h6 : shr .u8 (rd l ((l.length : Int) - 1)) (c % 8) = 0
    · rw [if_pos h6]
      have : okB l c = true := by
        simp only [okB, decide_eq_true_eq]
        exact ⟨by omega, by omega, by omega, Or.inr h6⟩
      rw [this]
    · rw [if_neg h6]
      have : okB l c = false := by
        simp only [okB, decide_eq_false_iff_not]
        rintro ⟨_, _, _, h | h⟩
        · exact h5 h
        · exact h6 h
      rw [this]
  · have h3 : ((l.length : Int) != c / 8 + (c % 8 + 7) / 8) = true := bne_iff_ne.2 h2
    rw [h3, no (by omega)]
    simp only [impl_bitsOk.j0, if_true]

/-! the value that is read -/
def bitN (l : List Int) (p : Int) : Nat := (rd l (p / 8)).toNat / 2 ^ (p % 8).toNat % 2
def gW (l : List Int) (a : Int) : Nat → Nat
  | 0 => 0
  | m + 1 => gW l a m + bitN l (a + (m : Int)) * 2 ^ m
theorem gW_succ (l : List Int) (a : Int) (m : Nat) : gW l a (m + 1) = gW l a m + bitN l (a + (m : Int)) * 2 ^ m := rfl
theorem bitN_lt (l : List Int) (p : Int) : bitN l p < 2 := Nat.mod_lt _ (by omega)
theorem gW_lt (l : List Int) (a : Int) : ∀ m, gW l a m < 2 ^ m := by
  intro m
  induction m with
  | zero => exact Nat.one_pos
  | succ m ih =>
    have h := bitN_lt l (a + (m : Int))
    have : bitN l (a + (m : Int)) * 2 ^ m ≤ 1 * 2 ^ m := Nat.mul_le_mul_right _ (by omega)
    simp only [gW, Nat.pow_succ]
    omega
theorem rd_byte {l : List Int} (h : ∀ y ∈ l, 0 ≤ y ∧ y < 256) (i : Int) : 0 ≤ rd l i ∧ rd l i < 256 := by
  unfold rd
  rw [List.getD_eq_getElem?_getD]
  by_cases hi : i.toNat < l.length
  · rw [List.getElem?_eq_getElem hi]
    exact h _ (List.getElem_mem hi)
  · rw [List.getElem?_eq_none (by omega)]
    decide
theorem bit_step {x j : Int} (hx : 0 ≤ x ∧ x < 256) (hj : 0 ≤ j ∧ j < 8) {v i : Nat} (hv : v < 2 ^ i) (hi : i < 64) :
    Go.bits .or .u64 (v : Int) (shl .u64 (IntKind.u64.wrap (Go.bits .and .u8 (shr .u8 x j) 1)) (i : Int)) = ((v + x.toNat / 2 ^ j.toNat % 2 * 2 ^ i : Nat) : Int) := by
  have e1 : shr .u8 x j = ((x.toNat / 2 ^ j.toNat : Nat) : Int) := by
    unfold shr
    rw [Nat.min_eq_left (by simp [IntKind.bits]; omega)]
    obtain ⟨n, rfl⟩ := Int.eq_ofNat_of_zero_le hx.1
    simp
  have l1 : x.toNat / 2 ^ j.toNat < 256 := Nat.lt_of_le_of_lt (Nat.div_le_self _ _) (by omega)
  have hb : x.toNat / 2 ^ j.toNat % 2 < 2 := Nat.mod_lt _ (by omega)
  rw [e1, show (1 : Int) = ((1 : Nat) : Int) from rfl, u8_and_nat _ 1 l1 (by omega), show (x.toNat / 2 ^ j.toNat) &&& 1 = x.toNat / 2 ^ j.toNat % 2 from nat_mask1 _]
  generalize x.toNat / 2 ^ j.toNat % 2 = b at hb
  have p2 : (2 : Nat) ^ i * 2 ≤ 2 ^ 64 := by
    rw [← Nat.pow_succ]
    exact Nat.pow_le_pow_right (by omega) (by omega)
  have hm : b * 2 ^ i ≤ 1 * 2 ^ i := Nat.mul_le_mul_right _ (by omega)
  rw [IntKind.wrap_u64, Int.emod_eq_of_lt (by omega) (by omega)]
  have e2 : shl .u64 (b : Int) (i : Int) = ((b * 2 ^ i : Nat) : Int) := by
    unfold shl
    rw [Nat.min_eq_left (by simp [IntKind.bits]; omega), IntKind.wrap_u64]
    have : (b : Int) * 2 ^ ((i : Int)).toNat = ((b * 2 ^ i : Nat) : Int) := by simp
    rw [this, Int.emod_eq_of_lt (by omega) (by omega)]
  rw [e2, u64_or_nat v (b * 2 ^ i) (by omega) (by omega), Nat.or_comm, nat_join i (b * 2 ^ i) v (by simp) hv, Nat.add_comm]
/-- What reading answers. -/
def gbF (l : List Int) (c at_ n : Int) : Bool × Int × Int := if okB l c = true then (if n < 1 then (false, 0, 0) else if n > 64 then (false, 0, 0) else if at_ < 0 then (false, 0, 0) else if at_ > c then (false, 0, 0) else if n > wrap64 (c - at_) then (false, 0, 0) else (true, (gW l at_ n.toNat : Int), wrap64 (at_ + n))) else (false, 0, 0)
theorem idx_facts (at_ : Int) (i : Nat) (h0 : 0 ≤ at_) (h1 : at_ + i < 8388608) (h2 : i < 64) :
    wrap64 (at_ + i) = at_ + i ∧ Int.tdiv (at_ + i) 8 = (at_ + i) / 8 ∧ Int.tmod (at_ + i) 8 = (at_ + i) % 8 ∧ wrap64 ((at_ + i) / 8) = (at_ + i) / 8 ∧ wrap64 ((i : Int) + 1) = ((i + 1 : Nat) : Int) ∧ IntKind.u64.wrap ((at_ + i) % 8) = (at_ + i) % 8 ∧ IntKind.u64.wrap (i : Int) = i := by
  refine ⟨wrap64_id (by omega) (by omega), Int.tdiv_eq_ediv_of_nonneg (by omega), Int.tmod_eq_emod_of_nonneg (by omega), wrap64_id (by omega) (by omega), ?_, u64w (by omega) (by omega), u64w (by omega) (by omega)⟩
  unfold wrap64
  omega
theorem get_loops_v (l : List Int) (hB : ∀ y ∈ l, 0 ≤ y ∧ y < 256) (c at_ n : Int) (hl : (l.length : Int) = (c + 7) / 8) (hc : 0 ≤ c ∧ c ≤ 8388608) (ha : 0 ≤ at_) (hn : n ≤ 64) (hs : at_ + n ≤ c) :
    ∀ (d i : Nat), (i : Int) + d = n → Ev (fun k => impl_Bits_get.l0 k at_ (gW l at_ i) n (i : Int) l c) ((gW l at_ n.toNat : Int), c) := by
  intro d
  induction d with
  | zero =>
    intro i h
    have e : n.toNat = i := by omega
    rw [e]
    refine Ev.step (f := fun _ => some ((gW l at_ i : Int), c)) (fun k => ?_) (Ev.now _)
    simp only [impl_Bits_get.l0]
    rw [if_neg (by omega)]
  | succ d ih =>
    intro i h
    have e2 := ih (i + 1) (by omega)
    rw [gW_succ] at e2
    simp only [bitN] at e2
    have a8 := bit_step (rd_byte hB ((at_ + i) / 8)) (j := (at_ + i) % 8) (by omega) (gW_lt l at_ i) (show i < 64 by omega)
    have p1 : 0 ≤ (at_ + (i : Int)) / 8 := by omega
    have p2 : (at_ + (i : Int)) / 8 < (l.length : Int) := by omega
    have p3 : 0 ≤ (at_ + (i : Int)) % 8 := by omega
    have p4 : 0 ≤ (i : Int) := by omega
    have p5 : (i : Int) < n := by omega
    obtain ⟨a1, a2, a3, a4, a5, a6, a7⟩ := idx_facts at_ i ha (by omega) (by omega)
    refine Ev.step (fun k => ?_) e2
    simp only [impl_Bits_get.l0, a1, a2, a3, a4, a5, a8]
    rw [if_pos p5, if_pos p1, if_pos p2, if_pos p3, if_pos p4]
theorem impl_get_at (l : List Int) (hB : ∀ y ∈ l, 0 ≤ y ∧ y < 256) (c at_ n : Int) (hl : l.length ≤ 1048576) (hc : -9223372036854775808 ≤ c ∧ c ≤ 9223372036854775807) :
    Ev (fun k => impl_GetBits.f k l c at_ n) (gbF l c at_ n) := by
  unfold impl_GetBits.f
  refine Ev.bind (a := okB l c) (Ev.step (fun k => impl_ok_at l c hl hc k) (Ev.now _)) ?_
  unfold gbF
  by_cases h0 : okB l c = true
  · simp only [if_pos h0]
    by_cases h1 : n < 1
    · simp only [if_pos h1]
      exact Ev.now _
    by_cases h2 : n > 64
    · simp only [if_neg h1, if_pos h2]
      exact Ev.now _
    by_cases h3 : at_ < 0
    · simp only [if_neg h1, if_neg h2, if_pos h3]
      exact Ev.now _
    by_cases h4 : at_ > c
    · simp only [if_neg h1, if_neg h2, if_neg h3, if_pos h4]
      exact Ev.now _
    obtain ⟨b1, b2, b3⟩ := okB_c h0
    by_cases h5 : n > wrap64 (c - at_)
    · simp only [if_neg h1, if_neg h2, if_neg h3, if_neg h4, if_pos h5]
      exact Ev.now _
    · simp only [if_neg h1, if_neg h2, if_neg h3, if_neg h4, if_neg h5]
      rw [wrap64_id (by omega) (by omega)] at h5
      refine Ev.bind (a := ((gW l at_ n.toNat : Int), c)) ?_ (Ev.now _)
      unfold impl_Bits_get.f
      exact (get_loops_v l hB c at_ n b3 ⟨b1, b2⟩ (by omega) (by omega) (by omega) n.toNat 0 (by omega))
  · simp only [if_neg h0]
    exact Ev.now _

/-! numbers of varying length: both readings -/
def vv (v P s : Int) : Int := if s < 64 then Go.bits .or .u64 v (shl .u64 P s) else v
def vbad (P b s : Int) : Prop := (P ≠ 0 ∧ (s ≥ 64 ∨ shr .u64 (shl .u64 P s) s ≠ P)) ∨ (s > 0 ∧ P = 0 ∧ b = 0)
instance (P b s : Int) : Decidable (vbad P b s) := by
  unfold vbad
  exact inferInstance
theorem impl_j2_at (l : List Int) (c n v s P at' : Int) (m t : Bool) (hn : 2 ≤ n ∧ n ≤ 32) (hs : 0 ≤ s ∧ s ≤ 300) (k : Nat) :
    impl_GetVar.j2 (k + 3) at' n v s P m t l c = if t = true ∨ (P ≠ 0 ∧ (s ≥ 64 ∨ shr .u64 (shl .u64 P s) s ≠ P)) then some (false, 0, 0) else if m = false then some (true, vv v P s, at') else if s + n - 1 > 200 then some (false, 0, 0) else impl_GetVar.l0 k at' n (vv v P s) (s + n - 1) false l c := by
  have w2 : wrap64 (s + wrap64 (n - 1)) = s + n - 1 := by rw [wrap64_id (x := n - 1) (by omega) (by omega), wrap64_id (by omega) (by omega)]; omega
  simp only [impl_GetVar.j2, impl_GetVar.j3, impl_GetVar.j4, w2, vv]
  have h1 : 0 ≤ s := by omega
  cases t
  · by_cases hP : P = 0 <;> by_cases h64 : s ≥ 64 <;> by_cases ht : shr .u64 (shl .u64 P s) s = P <;> cases m
    all_goals first
      | (have h65 : ¬ s < 64 := by omega
         simp [hP, h64, h65, h1, ht])
      | (have h65 : s < 64 := by omega
         simp [hP, h64, h65, h1, ht])
      | (have h65 : ¬ s < 64 := by omega
         subst hP
         simp [h64, h65, h1, ht])
      | (have h65 : s < 64 := by omega
         subst hP
         simp [h64, h65, h1, ht])
  · simp
theorem and_low {P b m : Nat} (hP : P < 2 ^ m) (hb : b < 2) (hm : m < 63) : Go.bits .and .u64 ((P : Int) + (b : Int) * 2 ^ m) (IntKind.u64.wrap (shl .u64 1 (m : Int) - 1)) = (P : Int) := by
  have p2 : (2 : Nat) ^ m * 4 ≤ 2 ^ 64 := by
    rw [show (4 : Nat) = 2 ^ 2 from rfl, ← Nat.pow_add]
    exact Nat.pow_le_pow_right (by omega) (by omega)
  have p1 : 0 < (2 : Nat) ^ m := Nat.pow_pos (by omega)
  have hbm : b * 2 ^ m ≤ 1 * 2 ^ m := Nat.mul_le_mul_right _ (by omega)
  have e1 : shl .u64 1 (m : Int) = ((2 ^ m : Nat) : Int) := by
    unfold shl
    rw [Nat.min_eq_left (by simp [IntKind.bits]; omega), IntKind.wrap_u64]
    have : (1 : Int) * 2 ^ ((m : Int)).toNat = ((2 ^ m : Nat) : Int) := by simp
    rw [this, Int.emod_eq_of_lt (by omega) (by omega)]
  have e2 : (P : Int) + (b : Int) * 2 ^ m = ((P + b * 2 ^ m : Nat) : Int) := by simp
  have e3 : ((2 ^ m : Nat) : Int) - 1 = ((2 ^ m - 1 : Nat) : Int) := by omega
  rw [e1, e2, e3, IntKind.wrap_u64, Int.emod_eq_of_lt (by omega) (by omega), u64_and_nat _ _ (by omega) (by omega), Nat.and_two_pow_sub_one_eq_mod, Nat.add_mul_mod_self_right, Nat.mod_eq_of_lt hP]
theorem shr_high {P b m : Nat} (hP : P < 2 ^ m) (hm : m < 63) : shr .u64 ((P : Int) + (b : Int) * 2 ^ m) (m : Int) = (b : Int) := by
  have p1 : 0 < (2 : Nat) ^ m := Nat.pow_pos (by omega)
  unfold shr
  rw [Nat.min_eq_left (by simp [IntKind.bits]; omega)]
  have e2 : (P : Int) + (b : Int) * 2 ^ m = ((P + b * 2 ^ m : Nat) : Int) := by simp
  have e3 : (2 : Int) ^ ((m : Int)).toNat = ((2 ^ m : Nat) : Int) := by simp
  rw [e2, e3, ← Int.natCast_ediv, Nat.add_mul_div_right _ _ p1, Nat.div_eq_of_lt hP, Nat.zero_add]
section
variable (l : List Int) (hB : ∀ y ∈ l, 0 ≤ y ∧ y < 256) (c n : Int) (hl : l.length ≤ 1048576) (hc : -9223372036854775808 ≤ c ∧ c ≤ 9223372036854775807) (hn : 2 ≤ n ∧ n ≤ 32)
include hB hl hc hn
/-- One round of the program, at a place where a piece can be read. -/
theorem impl_round (at_ v s : Int) (f : Bool) (hs : 0 ≤ s ∧ s ≤ 300) (P b : Nat) (hP : P < 2 ^ (n.toNat - 1)) (hb : b < 2) (g : gbF l c at_ n = (true, (P : Int) + (b : Int) * 2 ^ (n.toNat - 1), at_ + n)) (r : Bool × Int × Int)
    (h : Ev (fun k => if (b = 0 ∧ P = 0 ∧ f = false) ∨ ((P : Int) ≠ 0 ∧ (s ≥ 64 ∨ shr .u64 (shl .u64 (P : Int) s) s ≠ (P : Int))) then some (false, 0, 0) else if b = 0 then some (true, vv v P s, at_ + n) else if s + n - 1 > 200 then some (false, 0, 0) else impl_GetVar.l0 k (at_ + n) n (vv v P s) (s + n - 1) false l c) r) :
    Ev (fun k => impl_GetVar.l0 k at_ n v s f l c) r := by
  have e1 : wrap64 (n - 1) = ((n.toNat - 1 : Nat) : Int) := by rw [wrap64_id (by omega) (by omega)]; omega
  have al := and_low hP hb (show n.toNat - 1 < 63 by omega)
  have sh := shr_high (b := b) hP (show n.toNat - 1 < 63 by omega)
  refine Ev.step (f := fun k => (impl_GetBits.f k l c at_ n).bind fun t => (if t.1 = true then (if 0 ≤ (wrap64 (n - 1)) then (if (shr .u64 t.2.1 (wrap64 (n - 1))) = 1 then (impl_GetVar.j2 k t.2.2 n v s (Go.bits .and .u64 t.2.1 (IntKind.u64.wrap ((shl .u64 1 (wrap64 (n - 1))) - 1))) ((shr .u64 t.2.1 (wrap64 (n - 1))) == 1) false l c) else (if (Go.bits .and .u64 t.2.1 (IntKind.u64.wrap ((shl .u64 1 (wrap64 (n - 1))) - 1))) = 0 then (impl_GetVar.j2 k t.2.2 n v s (Go.bits .and .u64 t.2.1 (IntKind.u64.wrap ((shl .u64 1 (wrap64 (n - 1))) - 1))) ((shr .u64 t.2.1 (wrap64 (n - 1))) == 1) (!f) l c) else (impl_GetVar.j2 k t.2.2 n v s (Go.bits .and .u64 t.2.1 (IntKind.u64.wrap ((shl .u64 1 (wrap64 (n - 1))) - 1))) ((shr .u64 t.2.1 (wrap64 (n - 1))) == 1) false l c))) else (none)) else (some (false, 0, 0)))) (fun k => by simp only [impl_GetVar.l0]) ?_
  refine Ev.bind (impl_get_at l hB c at_ n hl hc) ?_
  rw [g]
  simp only [if_true, e1, al, sh]
  have j : ∀ (m t : Bool), Ev (fun k => if t = true ∨ ((P : Int) ≠ 0 ∧ (s ≥ 64 ∨ shr .u64 (shl .u64 (P : Int) s) s ≠ (P : Int))) then some (false, 0, 0) else if m = false then some (true, vv v P s, at_ + n) else if s + n - 1 > 200 then some (false, 0, 0) else impl_GetVar.l0 k (at_ + n) n (vv v P s) (s + n - 1) false l c) r → Ev (fun k => impl_GetVar.j2 k (at_ + n) n v s P m t l c) r := by
    intro m t h
    obtain ⟨k0, h⟩ := h
    refine ⟨k0 + 3, fun k hk => ?_⟩
    obtain ⟨q, rfl⟩ : ∃ q, k = q + 3 := ⟨k - 3, by omega⟩
    have := h q (by omega)
    simp only at this ⊢
    rw [impl_j2_at l c n v s P (at_ + n) m t hn hs q]
    exact this
  simp only [show (0 : Int) ≤ ((n.toNat - 1 : Nat) : Int) by omega, if_true]
  rcases (show b = 0 ∨ b = 1 by omega) with rfl | rfl
  · simp only [show ¬ (((0 : Nat) : Int) = 1) by omega, if_false, show ((((0 : Nat) : Int) == 1)) = false from rfl]
    by_cases h0 : P = 0
    · subst h0
      simp only [Int.natCast_zero, if_true]
      refine j _ _ ?_
      simpa using h
    · simp only [show ¬ ((P : Int) = 0) by omega, if_false]
      refine j _ _ ?_
      simpa [h0] using h
  · simp only [show (((1 : Nat) : Int) = 1) by omega, if_true, show ((((1 : Nat) : Int) == 1)) = true from rfl]
    refine j _ _ ?_
    simpa using h
end

/-! putting bits behind others: the plain model and both programs' steps -/
def BW (l : List Int) (c : Nat) : Prop := (∀ y ∈ l, 0 ≤ y ∧ y < 256) ∧ l.length = (c + 7) / 8 ∧ (c % 8 = 0 ∨ (rd l ((c / 8 : Nat) : Int)).toNat < 2 ^ (c % 8))
def pl1 (l : List Int) (c : Nat) : List Int := if c % 8 = 0 then l ++ [0] else l
def pushB (l : List Int) (c b : Nat) : List Int := (pl1 l c).set (c / 8) (((rd (pl1 l c) ((c / 8 : Nat) : Int)).toNat + b * 2 ^ (c % 8) : Nat) : Int)
theorem rd_set_same {l : List Int} {i : Nat} (h : i < l.length) (v : Int) : rd (l.set i v) (i : Int) = v := by
  unfold rd
  simp [List.getD_eq_getElem?_getD, h]
theorem rd_set_other {l : List Int} {i : Nat} (v : Int) {j : Int} (h : j.toNat ≠ i) : rd (l.set i v) j = rd l j := by
  unfold rd
  simp [List.getD_eq_getElem?_getD, List.getElem?_set, Ne.symm h]
theorem rd_byteN {l : List Int} (h : ∀ y ∈ l, 0 ≤ y ∧ y < 256) (i : Int) : 0 ≤ rd l i ∧ rd l i < 256 := by
  unfold rd
  rw [List.getD_eq_getElem?_getD]
  by_cases hi : i.toNat < l.length
  · rw [List.getElem?_eq_getElem hi]
    exact h _ (List.getElem_mem hi)
  · rw [List.getElem?_eq_none (by omega)]
    decide
theorem pl1_bytes {l : List Int} {c : Nat} (h : BW l c) : ∀ y ∈ pl1 l c, 0 ≤ y ∧ y < 256 := by
  intro y hy
  unfold pl1 at hy
  split at hy
  · rcases List.mem_append.1 hy with hy | hy
    · exact h.1 y hy
    · simp at hy
      omega
  · exact h.1 y hy
theorem pl1_len {l : List Int} {c : Nat} (h : BW l c) : (pl1 l c).length = c / 8 + 1 := by
  have := h.2.1
  unfold pl1
  split
  · simp
    omega
  · omega
theorem pl1_lt {l : List Int} {c : Nat} (h : BW l c) : (rd (pl1 l c) ((c / 8 : Nat) : Int)).toNat < 2 ^ (c % 8) := by
  unfold pl1
  split
  · rename_i h0
    have e : rd (l ++ [0]) ((c / 8 : Nat) : Int) = 0 := by
      have := h.2.1
      unfold rd
      rw [List.getD_eq_getElem?_getD, List.getElem?_append_right (by omega)]
      have : (((c / 8 : Nat) : Int)).toNat - l.length = 0 := by omega
      rw [this]
      rfl
    rw [e, h0]
    decide
  · rename_i h0
    rcases h.2.2 with h | h
    · exact absurd h h0
    · exact h
theorem pow_cast (j : Nat) : (2 : Int) ^ (((j : Nat) : Int)).toNat = ((2 ^ j : Nat) : Int) := by simp
theorem two_pow_le {a b : Nat} (h : a ≤ b) : 2 ^ a ≤ 2 ^ b := Nat.pow_le_pow_right (by omega) h
theorem BW_push {l : List Int} {c b : Nat} (h : BW l c) (hb : b < 2) : BW (pushB l c b) (c + 1) := by
  have hx := pl1_lt h
  have hl := pl1_len h
  have hm : b * 2 ^ (c % 8) ≤ 1 * 2 ^ (c % 8) := Nat.mul_le_mul_right _ (by omega)
  have h8 : 2 ^ (c % 8 + 1) ≤ 2 ^ 8 := two_pow_le (by omega)
  have hs : 2 ^ (c % 8 + 1) = 2 ^ (c % 8) * 2 := Nat.pow_succ ..
  refine ⟨fun y hy => ?_, by unfold pushB; rw [List.length_set, hl]; omega, ?_⟩
  · unfold pushB at hy
    rcases List.mem_or_eq_of_mem_set hy with hy | hy
    · exact pl1_bytes h y hy
    · rw [hy]
      omega
  · by_cases h0 : (c + 1) % 8 = 0
    · exact Or.inl h0
    · right
      have e1 : (c + 1) / 8 = c / 8 := by omega
      have e2 : (c + 1) % 8 = c % 8 + 1 := by omega
      rw [e1, e2]
      unfold pushB
      rw [rd_set_same (by omega)]
      rw [Int.toNat_natCast]
      omega
theorem BW_le {l : List Int} {c : Nat} (h : BW l c) : l.length = (c + 7) / 8 := h.2.1
theorem or_add {x j b : Nat} (hx : x < 2 ^ j) (hj : j < 8) (hb : b < 2) : Go.bits .or .u8 (x : Int) ((b * 2 ^ j : Nat) : Int) = ((x + b * 2 ^ j : Nat) : Int) := by
  have hm : b * 2 ^ j ≤ 1 * 2 ^ j := Nat.mul_le_mul_right _ (by omega)
  have h8 : 2 ^ j ≤ 2 ^ 7 := two_pow_le (by omega)
  rw [u8_or_nat x (b * 2 ^ j) (by omega) (by omega), Nat.or_comm, nat_join j (b * 2 ^ j) x (by simp) hx, Nat.add_comm]
theorem put_idx (c : Nat) (hc : c ≤ 1099511627776) : wrap64 (Int.tdiv (c : Int) 8) = ((c / 8 : Nat) : Int) ∧ Int.tmod (c : Int) 8 = ((c % 8 : Nat) : Int) ∧ wrap64 ((c : Int) + 1) = ((c + 1 : Nat) : Int) := by
  refine ⟨?_, ?_, ?_⟩
  · rw [Int.tdiv_eq_ediv_of_nonneg (by omega), wrap64_id (by omega) (by omega)]
    omega
  · rw [Int.tmod_eq_emod_of_nonneg (by omega)]
    omega
  · unfold wrap64
    omega
theorem shr_nat {v i : Nat} (hi : i ≤ 64) : shr .u64 (v : Int) (i : Int) = ((v / 2 ^ i : Nat) : Int) := by
  unfold shr
  rw [Nat.min_eq_left (by simp [IntKind.bits]; omega)]
  have e3 : (2 : Int) ^ ((i : Int)).toNat = ((2 ^ i : Nat) : Int) := by simp
  rw [e3, ← Int.natCast_ediv]
theorem and_one {x : Nat} (hx : x < 18446744073709551616) : Go.bits .and .u64 (x : Int) 1 = ((x % 2 : Nat) : Int) := by
  rw [show (1 : Int) = ((1 : Nat) : Int) from rfl, u64_and_nat x 1 hx (by omega), nat_mask1]
theorem shl_one {j : Nat} (hj : j < 8) : shl .u8 1 (j : Int) = ((1 * 2 ^ j : Nat) : Int) := by
  have h8 : 2 ^ j ≤ 2 ^ 7 := two_pow_le (by omega)
  unfold shl
  rw [Nat.min_eq_left (by simp [IntKind.bits]; omega)]
  have : (1 : Int) * 2 ^ ((j : Int)).toNat = ((1 * 2 ^ j : Nat) : Int) := by simp
  rw [this, show IntKind.u8.wrap (((1 * 2 ^ j : Nat) : Int)) = (((1 * 2 ^ j : Nat) : Int)) % 256 by simp [IntKind.wrap, IntKind.bits, IntKind.signed], Int.emod_eq_of_lt (by omega) (by omega)]
theorem rd_cast {l : List Int} (h : ∀ y ∈ l, 0 ≤ y ∧ y < 256) (i : Int) : rd l i = (((rd l i).toNat : Nat) : Int) := by
  have := rd_byteN h i
  omega
theorem impl_push_at {l : List Int} {c v i : Nat} (h : BW l c) (hc : c ≤ 1099511627776) (hv : v < 18446744073709551616) (hi : i < 64) : impl_Bits_put.at_ (pl1 l c) (c : Int) (v : Int) (i : Int) = some (pushB l c (v / 2 ^ i % 2)) := by
  obtain ⟨e1, e2, _⟩ := put_idx c hc
  have hl := pl1_len h
  have hx := pl1_lt h
  have hb : v / 2 ^ i % 2 < 2 := Nat.mod_lt _ (by omega)
  have hv2 : v / 2 ^ i < 18446744073709551616 := Nat.lt_of_le_of_lt (Nat.div_le_self _ _) hv
  have e3 : (Go.bits .and .u64 (shr .u64 (v : Int) (i : Int)) 1 % 256 * 2 ^ (((c % 8 : Nat) : Int)).toNat % 256) = ((v / 2 ^ i % 2 * 2 ^ (c % 8) : Nat) : Int) := by
    rw [shr_nat (by omega), and_one hv2]
    generalize v / 2 ^ i % 2 = b at hb
    have hm : b * 2 ^ (c % 8) ≤ 1 * 2 ^ (c % 8) := Nat.mul_le_mul_right _ (by omega)
    have h8 : 2 ^ (c % 8) ≤ 2 ^ 7 := two_pow_le (by omega)
    rw [Int.emod_eq_of_lt (a := (b : Int)) (by omega) (by omega)]
    have : (b : Int) * 2 ^ (((c % 8 : Nat) : Int)).toNat = ((b * 2 ^ (c % 8) : Nat) : Int) := by rw [pow_cast, Int.natCast_mul]
    rw [this, Int.emod_eq_of_lt (by omega) (by omega)]
  unfold impl_Bits_put.at_
  rw [e1, e2, if_pos (by omega), if_pos (by omega), if_pos (by omega), if_pos (by omega), e3, rd_cast (pl1_bytes h), or_add hx (by omega) hb]
  unfold pushB
  rw [Int.toNat_natCast]
/-- d bits of v from bit i on, put one by one. -/
def putN (v : Nat) : Nat → Nat → List Int → Nat → List Int
  | 0, _, l, _ => l
  | d + 1, i, l, c => putN v d (i + 1) (pushB l c (v / 2 ^ i % 2)) (c + 1)
theorem BW_putN {v : Nat} : ∀ (d i : Nat) (l : List Int) (c : Nat), BW l c → BW (putN v d i l c) (c + d) := by
  intro d
  induction d with
  | zero => exact fun i l c h => h
  | succ d ih =>
    intro i l c h
    have := ih (i + 1) (pushB l c (v / 2 ^ i % 2)) (c + 1) (BW_push h (Nat.mod_lt _ (by omega)))
    rw [show c + 1 + d = c + (d + 1) by omega] at this
    exact this
theorem putN_snoc {v : Nat} : ∀ (d i : Nat) (l : List Int) (c : Nat), putN v (d + 1) i l c = pushB (putN v d i l c) (c + d) (v / 2 ^ (i + d) % 2) := by
  intro d
  induction d with
  | zero => exact fun i l c => rfl
  | succ d ih =>
    intro i l c
    rw [show putN v (d + 1 + 1) i l c = putN v (d + 1) (i + 1) (pushB l c (v / 2 ^ i % 2)) (c + 1) from rfl, ih]
    rw [show c + 1 + d = c + (d + 1) by omega, show i + 1 + d = i + (d + 1) by omega]
    rfl
theorem putN_congr {v u : Nat} : ∀ (d i : Nat) (l : List Int) (c : Nat), (∀ j, i ≤ j → j < i + d → v / 2 ^ j % 2 = u / 2 ^ j % 2) → putN v d i l c = putN u d i l c := by
  intro d
  induction d with
  | zero => exact fun i l c _ => rfl
  | succ d ih =>
    intro i l c h
    simp only [putN]
    rw [h i (by omega) (by omega), ih (i + 1) _ _ (fun j h1 h2 => h j (by omega) (by omega))]
theorem impl_put_ev {v n : Nat} (hv : v < 18446744073709551616) (hn : n ≤ 64) : ∀ (d i : Nat) (l : List Int) (c : Nat), BW l c → i + d = n → c + d ≤ 1099511627776 → Ev (fun k => impl_Bits_put.l0 k (v : Int) (n : Int) (i : Int) l (c : Int)) (putN v d i l c, ((c + d : Nat) : Int)) := by
  intro d
  induction d with
  | zero =>
    intro i l c h hi hc
    refine Ev.step (f := fun _ => some (l, (c : Int))) (fun k => ?_) (Ev.now _)
    simp only [impl_Bits_put.l0]
    rw [if_neg (by omega)]
  | succ d ih =>
    intro i l c h hi hc
    have h1 := ih (i + 1) (pushB l c (v / 2 ^ i % 2)) (c + 1) (BW_push h (Nat.mod_lt _ (by omega))) (by omega) (by omega)
    rw [show c + 1 + d = c + (d + 1) by omega] at h1
    have hp := impl_push_at (i := i) h (by omega) hv (by omega)
    obtain ⟨_, e2, e3⟩ := put_idx c (by omega)
    have e4 : wrap64 ((i : Int) + 1) = ((i + 1 : Nat) : Int) := by
      unfold wrap64
      omega
    have hl0 := h.2.1
    refine Ev.step (fun k => ?_) h1
    simp only [impl_Bits_put.l0]
    rw [if_pos (by omega), e3, e4]
    by_cases h0 : c % 8 = 0
    · have e5 : pl1 l c = l ++ [0] := by
        unfold pl1
        rw [if_pos h0]
      rw [e5] at hp
      rw [if_pos (by rw [e2]; omega), if_pos (by omega), hp]
      rfl
    · have e5 : pl1 l c = l := by
        unfold pl1
        rw [if_neg h0]
      rw [e5] at hp
      rw [if_neg (by rw [e2]; omega), hp]
      rfl
/-- Well-formed bits, told by numbers of Nat. -/
theorem okB_BW {l : List Int} {c : Int} (hB : ∀ y ∈ l, 0 ≤ y ∧ y < 256) (h : okB l c = true) : ∃ m : Nat, c = (m : Int) ∧ m ≤ 8388608 ∧ BW l m := by
  simp only [okB, decide_eq_true_eq] at h
  obtain ⟨h0, h1, h2, h3⟩ := h
  refine ⟨c.toNat, by omega, by omega, hB, by omega, ?_⟩
  rcases h3 with h3 | h3
  · left
    omega
  · by_cases h4 : c.toNat % 8 = 0
    · exact Or.inl h4
    · right
      have e1 : (l.length : Int) - 1 = ((c.toNat / 8 : Nat) : Int) := by omega
      have e2 : c % 8 = ((c.toNat % 8 : Nat) : Int) := by omega
      rw [e1, e2] at h3
      have hx := rd_byteN hB ((c.toNat / 8 : Nat) : Int)
      unfold shr at h3
      rw [Nat.min_eq_left (by simp [IntKind.bits]; omega)] at h3
      have e3 : (2 : Int) ^ (((c.toNat % 8 : Nat) : Int)).toNat = ((2 ^ (c.toNat % 8) : Nat) : Int) := pow_cast _
      rw [e3, rd_cast hB, ← Int.natCast_ediv] at h3
      have h5 : (rd l ((c.toNat / 8 : Nat) : Int)).toNat / 2 ^ (c.toNat % 8) = 0 := by exact_mod_cast h3
      have hp : 0 < 2 ^ (c.toNat % 8) := Nat.pow_pos (by omega)
      exact (Nat.div_eq_zero_iff_lt hp).1 h5
/-- .. and the other way. -/
theorem BW_okB {l : List Int} {m : Nat} (h : BW l m) (hm : m ≤ 8388608) : okB l (m : Int) = true := by
  obtain ⟨hB, hl, h3⟩ := h
  simp only [okB, decide_eq_true_eq]
  refine ⟨by omega, by omega, by omega, ?_⟩
  rcases h3 with h3 | h3
  · left
    omega
  · by_cases h4 : m % 8 = 0
    · left
      omega
    · right
      have e1 : (l.length : Int) - 1 = ((m / 8 : Nat) : Int) := by omega
      have e2 : (m : Int) % 8 = ((m % 8 : Nat) : Int) := by omega
      rw [e1, e2]
      unfold shr
      rw [Nat.min_eq_left (by simp [IntKind.bits]; omega)]
      have e3 : (2 : Int) ^ (((m % 8 : Nat) : Int)).toNat = ((2 ^ (m % 8) : Nat) : Int) := pow_cast _
      rw [e3, rd_cast hB, ← Int.natCast_ediv, Nat.div_eq_of_lt h3]
      rfl
theorem BW_nil : BW [] 0 := ⟨fun y h => by simp at h, rfl, Or.inl rfl⟩
/-- What the bits are at the start. -/
def startL (l : List Int) (c : Int) : List Int := if okB l c = true then l else []
def startC (l : List Int) (c : Int) : Nat := if okB l c = true then c.toNat else 0
theorem start_BW {l : List Int} {c : Int} (hB : ∀ y ∈ l, 0 ≤ y ∧ y < 256) : BW (startL l c) (startC l c) ∧ startC l c ≤ 8388608 := by
  unfold startL startC
  by_cases h : okB l c = true
  · rw [if_pos h, if_pos h]
    obtain ⟨m, rfl, hm, hb⟩ := okB_BW hB h
    exact ⟨hb, hm⟩
  · rw [if_neg h, if_neg h]
    exact ⟨BW_nil, by omega⟩
theorem impl_right_ev (l : List Int) (c : Int) (hl : l.length ≤ 1048576) (hc : -9223372036854775808 ≤ c ∧ c ≤ 9223372036854775807) : Ev (fun k => impl_right.f k l c) (startL l c, (startC l c : Int)) := by
  unfold impl_right.f
  refine Ev.bind (a := okB l c) (Ev.step (fun k => impl_ok_at l c hl hc k) (Ev.now _)) ?_
  unfold startL startC
  by_cases h : okB l c = true
  · obtain ⟨b1, _, _⟩ := okB_c h
    simp only [if_pos h]
    refine Ev.congr (f := fun _ => some (l, ((c.toNat : Nat) : Int))) (fun k => ?_) (Ev.now _)
    rw [if_pos (by simp; omega), show ((c.toNat : Nat) : Int) = c by omega, List.nil_append]
  · simp only [if_neg h]
    exact Ev.now _

/-- The low part of a number, and a bit behind it. -/
theorem low_bits {v m : Nat} : ∀ j, j < m → v % 2 ^ m / 2 ^ j % 2 = v / 2 ^ j % 2 := by
  intro j hj
  have e : v % 2 ^ m / 2 ^ j = v / 2 ^ j % 2 ^ (m - j) := by
    rw [show m = j + (m - j) by omega, Nat.pow_add, Nat.mod_mul_right_div_self, show j + (m - j) - j = m - j by omega]
  have e2 : 2 ^ (m - j) = 2 * 2 ^ (m - j - 1) := by
    rw [← Nat.pow_succ', show (m - j - 1).succ = m - j by omega]
  rw [e, e2, Nat.mod_mul_right_mod]
theorem piece_bits {x b m : Nat} (hx : x < 2 ^ m) (hb : b < 2) : (∀ j, j < m → (x + b * 2 ^ m) / 2 ^ j % 2 = x / 2 ^ j % 2) ∧ (x + b * 2 ^ m) / 2 ^ m % 2 = b := by
  have p : 0 < 2 ^ m := Nat.pow_pos (by omega)
  constructor
  · intro j hj
    have h1 := low_bits (v := x + b * 2 ^ m) (m := m) j hj
    rw [Nat.add_mul_mod_self_right, Nat.mod_eq_of_lt hx] at h1
    exact h1.symm
  · rw [Nat.add_mul_div_right _ _ p, Nat.div_eq_of_lt hx, Nat.zero_add, Nat.mod_eq_of_lt hb]
/-- A piece and the bit that tells of more, put in two steps or in one. -/
theorem put_piece (l : List Int) (c x b m : Nat) (hx : x < 2 ^ m) (hb : b < 2) : pushB (putN x m 0 l c) (c + m) b = putN (x + b * 2 ^ m) (m + 1) 0 l c := by
  obtain ⟨h1, h2⟩ := piece_bits hx hb
  rw [putN_snoc, Nat.zero_add, h2, putN_congr (v := x + b * 2 ^ m) (u := x) m 0 l c (fun j _ hj => h1 j (by omega))]
theorem mask_nat {v m : Nat} (hv : v < 18446744073709551616) (hm : m < 63) : Go.bits .and .u64 (v : Int) (IntKind.u64.wrap (((2 ^ m : Nat) : Int) - 1)) = ((v % 2 ^ m : Nat) : Int) := by
  have p1 : 0 < (2 : Nat) ^ m := Nat.pow_pos (by omega)
  have p2 : (2 : Nat) ^ m ≤ 2 ^ 62 := two_pow_le (by omega)
  rw [show ((2 ^ m : Nat) : Int) - 1 = ((2 ^ m - 1 : Nat) : Int) by omega, u64w (by omega) (by omega), u64_and_nat _ _ hv (by omega), Nat.and_two_pow_sub_one_eq_mod]
theorem more_nat {x m : Nat} (hx : x < 2 ^ m) (hm : m < 63) : Go.bits .or .u64 (x : Int) ((2 ^ m : Nat) : Int) = ((x + 1 * 2 ^ m : Nat) : Int) := by
  have p2 : (2 : Nat) ^ m ≤ 2 ^ 62 := two_pow_le (by omega)
  rw [u64_or_nat _ _ (by omega) (by omega), Nat.or_comm, nat_join m (2 ^ m) x (by simp) hx, Nat.one_mul, Nat.add_comm]
theorem pow_u64 {m : Nat} (hm : m < 63) : IntKind.u64.wrap (2 ^ m) = ((2 ^ m : Nat) : Int) := by
  have p2 : (2 : Nat) ^ m ≤ 2 ^ 62 := two_pow_le (by omega)
  have : (2 : Int) ^ m = ((2 ^ m : Nat) : Int) := by simp
  rw [this]
  generalize 2 ^ m = q at p2
  exact u64w (by omega) (by omega)
theorem shl_one64 {m : Nat} (hm : m < 63) : shl .u64 1 (m : Int) = ((2 ^ m : Nat) : Int) := by
  have p2 : (2 : Nat) ^ m ≤ 2 ^ 62 := two_pow_le (by omega)
  unfold shl
  rw [Nat.min_eq_left (by simp [IntKind.bits]; omega), Int.one_mul, pow_cast]
  generalize 2 ^ m = q at p2
  exact u64w (by omega) (by omega)
/-- One round of the program. -/
theorem impl_var_round {l : List Int} {c v m : Nat} (h : BW l c) (hc : c ≤ 1099511627000) (hv : v < 18446744073709551616) (hm : 1 ≤ m ∧ m ≤ 31) :
    (v / 2 ^ m = 0 → Ev (fun k => impl_Bits_putVar.l0 k (v : Int) ((m + 1 : Nat) : Int) l (c : Int)) (putN (v % 2 ^ m) (m + 1) 0 l c, ((c + (m + 1) : Nat) : Int))) ∧
    (v / 2 ^ m ≠ 0 → ∀ r, Ev (fun k => impl_Bits_putVar.l0 k ((v / 2 ^ m : Nat) : Int) ((m + 1 : Nat) : Int) (putN (v % 2 ^ m + 1 * 2 ^ m) (m + 1) 0 l c) ((c + (m + 1) : Nat) : Int)) r → Ev (fun k => impl_Bits_putVar.l0 k (v : Int) ((m + 1 : Nat) : Int) l (c : Int)) r) := by
  have et : (((m + 1 : Nat) : Int)).toNat - 1 = m := by omega
  have p1 : 0 < (2 : Nat) ^ m := Nat.pow_pos (by omega)
  have hx : v % 2 ^ m < 2 ^ m := Nat.mod_lt _ p1
  have p2 : (2 : Nat) ^ m ≤ 2 ^ 31 := two_pow_le (by omega)
  have ev : (v : Int) / 2 ^ m = ((v / 2 ^ m : Nat) : Int) := by
    rw [show (2 : Int) ^ m = ((2 ^ m : Nat) : Int) by simp, ← Int.natCast_ediv]
  have em : Go.bits .and .u64 (v : Int) (IntKind.u64.wrap (IntKind.u64.wrap (2 ^ m) - 1)) = ((v % 2 ^ m : Nat) : Int) := by
    rw [pow_u64 (by omega), mask_nat hv (by omega)]
  constructor
  · intro h0
    have i1 := impl_put_ev (v := v % 2 ^ m) (n := m + 1) (by omega) (by omega) (m + 1) 0 l c h (by omega) (by omega)
    refine Ev.step (fun k => ?_) i1
    simp only [impl_Bits_putVar.l0, et, ev, em]
    rw [if_pos (by omega)]
    rfl
  · intro h0 r hr
    have i1 := impl_put_ev (v := v % 2 ^ m + 1 * 2 ^ m) (n := m + 1) (by omega) (by omega) (m + 1) 0 l c h (by omega) (by omega)
    refine Ev.step (fun k => ?_) (Ev.bind (f := fun k t => impl_Bits_putVar.l0 k ((v / 2 ^ m : Nat) : Int) ((m + 1 : Nat) : Int) t.1 t.2) i1 hr)
    simp only [impl_Bits_putVar.l0, et, ev, pow_u64 (show m < 63 by omega), mask_nat hv (show m < 63 by omega), more_nat hx (show m < 63 by omega)]
    rw [if_neg (by omega)]
    rfl

/-! what has been put is read again -/
theorem bitN_nat (l : List Int) (p : Nat) : bitN l (p : Int) = (rd l ((p / 8 : Nat) : Int)).toNat / 2 ^ (p % 8) % 2 := by
  unfold bitN
  rw [show (p : Int) / 8 = ((p / 8 : Nat) : Int) by omega, show (p : Int) % 8 = ((p % 8 : Nat) : Int) by omega, Int.toNat_natCast]
def Agr (l l' : List Int) (c : Nat) : Prop := ∀ p : Nat, p < c → bitN l' (p : Int) = bitN l (p : Int)
theorem Agr.refl (l : List Int) (c : Nat) : Agr l l c := fun _ _ => rfl
theorem Agr.trans {l l' l'' : List Int} {c c' : Nat} (h : Agr l l' c) (k : Agr l' l'' c') (hc : c ≤ c') : Agr l l'' c := fun p hp => (k p (by omega)).trans (h p hp)
theorem push_agr {l : List Int} {c b : Nat} (h : BW l c) (hb : b < 2) : Agr l (pushB l c b) c ∧ bitN (pushB l c b) (c : Int) = b := by
  have hx := pl1_lt h
  have hl := pl1_len h
  have hl0 := h.2.1
  obtain ⟨h1, h2⟩ := piece_bits hx hb
  constructor
  · intro p hp
    rw [bitN_nat, bitN_nat]
    unfold pushB
    by_cases e : p / 8 = c / 8
    · have h0 : ¬ c % 8 = 0 := by omega
      rw [e, rd_set_same (by omega), Int.toNat_natCast, h1 (p % 8) (by omega)]
      unfold pl1
      rw [if_neg h0]
    · rw [rd_set_other _ (by omega)]
      have e2 : rd (pl1 l c) ((p / 8 : Nat) : Int) = rd l ((p / 8 : Nat) : Int) := by
        unfold pl1
        split
        · unfold rd
          rw [List.getD_eq_getElem?_getD, List.getD_eq_getElem?_getD, List.getElem?_append_left (by omega)]
        · rfl
      rw [e2]
  · rw [bitN_nat]
    unfold pushB
    rw [rd_set_same (by omega), Int.toNat_natCast, h2]
theorem putN_agr {v : Nat} : ∀ (d i : Nat) (l : List Int) (c : Nat), BW l c → Agr l (putN v d i l c) c ∧ ∀ j, j < d → bitN (putN v d i l c) ((c + j : Nat) : Int) = v / 2 ^ (i + j) % 2 := by
  intro d
  induction d with
  | zero => exact fun i l c _ => ⟨Agr.refl _ _, fun j h => by omega⟩
  | succ d ih =>
    intro i l c h
    have hb : v / 2 ^ i % 2 < 2 := Nat.mod_lt _ (by omega)
    obtain ⟨a1, a2⟩ := push_agr h hb
    obtain ⟨b1, b2⟩ := ih (i + 1) (pushB l c (v / 2 ^ i % 2)) (c + 1) (BW_push h hb)
    refine ⟨a1.trans b1 (by omega), fun j hj => ?_⟩
    simp only [putN]
    by_cases h0 : j = 0
    · subst h0
      simp only [Nat.add_zero]
      rw [b1 c (by omega), a2]
    · obtain ⟨q, rfl⟩ : ∃ q, j = q + 1 := ⟨j - 1, by omega⟩
      have := b2 q (by omega)
      rw [show c + 1 + q = c + (q + 1) by omega, show i + 1 + q = i + (q + 1) by omega] at this
      exact this
theorem gW_agr {l l' : List Int} {c : Nat} (h : Agr l l' c) (a : Nat) : ∀ d, a + d ≤ c → gW l' (a : Int) d = gW l (a : Int) d := by
  intro d
  induction d with
  | zero => exact fun _ => rfl
  | succ d ih =>
    intro hd
    rw [gW_succ, gW_succ, ih (by omega), show (a : Int) + (d : Int) = ((a + d : Nat) : Int) by omega, h (a + d) (by omega)]
theorem gW_bits {l : List Int} {v : Nat} (c : Nat) : ∀ d, (∀ j, j < d → bitN l ((c + j : Nat) : Int) = v / 2 ^ j % 2) → gW l (c : Int) d = v % 2 ^ d := by
  intro d
  induction d with
  | zero => intro _; simp [gW, Nat.mod_one]
  | succ d ih =>
    intro h
    rw [gW_succ, ih (fun j hj => h j (by omega)), show (c : Int) + (d : Int) = ((c + d : Nat) : Int) by omega, h d (by omega)]
    rw [Nat.pow_succ, Nat.mod_mul, Nat.mul_comm (v / 2 ^ d % 2)]
theorem gW_put {l : List Int} {v c d : Nat} (h : BW l c) : gW (putN v d 0 l c) (c : Int) d = v % 2 ^ d := gW_bits c d (fun j hj => by
  have := (putN_agr (v := v) d 0 l c h).2 j hj
  rwa [Nat.zero_add] at this)
/-- How many pieces a number takes. -/
def pcs (m : Nat) : Nat → Nat → Nat
  | 0, _ => 1
  | d + 1, v => if v / 2 ^ m = 0 then 1 else 1 + pcs m d (v / 2 ^ m)
def VarAt (l : List Int) (m : Nat) : Nat → Nat → Nat → Prop
  | 0, a, w => gW l (a : Int) (m + 1) = w
  | d + 1, a, w => if w / 2 ^ m = 0 then gW l (a : Int) (m + 1) = w else gW l (a : Int) (m + 1) = w % 2 ^ m + 1 * 2 ^ m ∧ VarAt l m d (a + (m + 1)) (w / 2 ^ m)
theorem pcs_pos (m : Nat) : ∀ d v, 1 ≤ pcs m d v := by
  intro d v
  cases d with
  | zero => exact Nat.le_refl _
  | succ d =>
    unfold pcs
    split <;> omega
theorem pcs_le (m : Nat) : ∀ d v, pcs m d v ≤ d + 1 := by
  intro d
  induction d with
  | zero => exact fun _ => Nat.le_refl _
  | succ d ih =>
    intro v
    have := ih (v / 2 ^ m)
    unfold pcs
    split <;> omega
theorem pcs_mul (m q : Nat) : (1 + q) * (m + 1) = (m + 1) + q * (m + 1) := by
  rw [Nat.add_mul, Nat.one_mul]
theorem VarAt_agr {l l' : List Int} {m c : Nat} (h : Agr l l' c) : ∀ d a w, a + pcs m d w * (m + 1) ≤ c → VarAt l m d a w → VarAt l' m d a w := by
  intro d
  induction d with
  | zero =>
    intro a w hc hv
    unfold VarAt at hv ⊢
    unfold pcs at hc
    rw [gW_agr h a _ (by omega)]
    exact hv
  | succ d ih =>
    intro a w hc hv
    unfold VarAt at hv ⊢
    unfold pcs at hc
    split at hv
    · rename_i h0
      rw [if_pos h0] at hc ⊢
      rw [gW_agr h a _ (by omega)]
      exact hv
    · rename_i h0
      rw [if_neg h0, pcs_mul] at hc
      rw [if_neg h0, gW_agr h a _ (by omega)]
      exact ⟨hv.1, ih _ _ (by omega) hv.2⟩
theorem two_pow64 {d : Nat} (h : d ≤ 64) : 2 ^ d ≤ 18446744073709551616 := by
  have := two_pow_le h
  omega
/-- A number in pieces, put by the program. -/
theorem var_put {m : Nat} (hm : 1 ≤ m ∧ m ≤ 31) : ∀ (d : Nat) (l : List Int) (c v : Nat), v < 2 ^ d → d ≤ 64 → BW l c → c + 64 * d ≤ 1099511620000 →
    ∃ l' : List Int, BW l' (c + pcs m d v * (m + 1)) ∧ Agr l l' c ∧ VarAt l' m d c v ∧ Ev (fun k => impl_Bits_putVar.l0 k (v : Int) ((m + 1 : Nat) : Int) l (c : Int)) (l', ((c + pcs m d v * (m + 1) : Nat) : Int)) := by
  have last : ∀ (l : List Int) (c v : Nat), v < 18446744073709551616 → BW l c → c ≤ 1099511620000 → v / 2 ^ m = 0 →
      BW (putN (v % 2 ^ m) (m + 1) 0 l c) (c + 1 * (m + 1)) ∧ Agr l (putN (v % 2 ^ m) (m + 1) 0 l c) c ∧ gW (putN (v % 2 ^ m) (m + 1) 0 l c) (c : Int) (m + 1) = v ∧ Ev (fun k => impl_Bits_putVar.l0 k (v : Int) ((m + 1 : Nat) : Int) l (c : Int)) (putN (v % 2 ^ m) (m + 1) 0 l c, ((c + 1 * (m + 1) : Nat) : Int)) := by
    intro l c v hv h hc hz
    have hlt : v < 2 ^ m := (Nat.div_eq_zero_iff_lt (Nat.pow_pos (by omega))).1 hz
    have e := (impl_var_round h (by omega) hv hm).1 hz
    have hs : 2 ^ (m + 1) = 2 ^ m * 2 := Nat.pow_succ ..
    rw [Nat.one_mul]
    refine ⟨BW_putN _ _ _ _ h, (putN_agr _ _ _ _ h).1, ?_, e⟩
    rw [gW_put h, Nat.mod_eq_of_lt hlt, Nat.mod_eq_of_lt (by omega)]
  intro d
  induction d with
  | zero =>
    intro l c v h0 hd h hc
    have := two_pow64 hd
    obtain ⟨a, b, e, f⟩ := last l c v (by omega) h (by omega) (by rw [show v = 0 by omega]; simp)
    exact ⟨_, a, b, e, f⟩
  | succ d ih =>
    intro l c v h0 hd h hc
    have h64 := two_pow64 hd
    by_cases hz : v / 2 ^ m = 0
    · obtain ⟨a, b, e, f⟩ := last l c v (by omega) h (by omega) hz
      unfold pcs VarAt
      rw [if_pos hz]
      simp only [if_pos hz]
      exact ⟨_, a, b, e, f⟩
    · have hv : v < 18446744073709551616 := by omega
      have hlt : v / 2 ^ m < 2 ^ d := by
        rw [Nat.div_lt_iff_lt_mul (Nat.pow_pos (by omega))]
        refine Nat.lt_of_lt_of_le h0 ?_
        rw [← Nat.pow_add]
        exact two_pow_le (by omega)
      have hx : v % 2 ^ m < 2 ^ m := Nat.mod_lt _ (Nat.pow_pos (by omega))
      have hs : 2 ^ (m + 1) = 2 ^ m * 2 := Nat.pow_succ ..
      have hb := BW_putN (v := v % 2 ^ m + 1 * 2 ^ m) (m + 1) 0 l c h
      obtain ⟨l', h1, h2, h3, h4⟩ := ih (putN (v % 2 ^ m + 1 * 2 ^ m) (m + 1) 0 l c) (c + (m + 1)) (v / 2 ^ m) hlt (by omega) hb (by omega)
      unfold pcs VarAt
      rw [if_neg hz, pcs_mul]
      simp only [if_neg hz]
      rw [show c + (m + 1 + pcs m d (v / 2 ^ m) * (m + 1)) = c + (m + 1) + pcs m d (v / 2 ^ m) * (m + 1) by omega]
      refine ⟨l', h1, ((putN_agr _ _ _ _ h).1).trans h2 (by omega), ⟨?_, h3⟩, (impl_var_round h (by omega) hv hm).2 hz _ h4⟩
      rw [gW_agr h2 c (m + 1) (by omega), gW_put h, Nat.mod_eq_of_lt (by omega)]
/-- .. and read again. -/
theorem shl_shr {P s : Nat} (hs : s < 64) (h : P * 2 ^ s < 18446744073709551616) : shl .u64 (P : Int) (s : Int) = ((P * 2 ^ s : Nat) : Int) ∧ shr .u64 (shl .u64 (P : Int) (s : Int)) (s : Int) = (P : Int) := by
  have e : shl .u64 (P : Int) (s : Int) = ((P * 2 ^ s : Nat) : Int) := by
    unfold shl
    rw [Nat.min_eq_left (by simp [IntKind.bits]; omega), pow_cast, ← Int.natCast_mul, IntKind.wrap_u64]
    generalize P * 2 ^ s = q at h
    omega
  refine ⟨e, ?_⟩
  rw [e, shr_nat (by omega), Nat.mul_div_cancel _ (Nat.pow_pos (by omega))]
theorem vv_at {v P s : Nat} (hs : s < 64) (hv : v < 2 ^ s) (h : P * 2 ^ s < 18446744073709551616) : vv (v : Int) (P : Int) (s : Int) = ((v + P * 2 ^ s : Nat) : Int) := by
  have h64 := two_pow64 (show s ≤ 64 by omega)
  unfold vv
  rw [if_pos (by omega), (shl_shr hs h).1, u64_or_nat _ _ (by omega) h, Nat.or_comm, nat_join s (P * 2 ^ s) v (by simp) hv, Nat.add_comm]
section
variable (l : List Int) (hB : ∀ y ∈ l, 0 ≤ y ∧ y < 256) (c : Nat) (hl : l.length ≤ 1048576) (hok : okB l (c : Int) = true) (m : Nat) (hm : 1 ≤ m ∧ m ≤ 31)
include hB hl hok hm
theorem var_get : ∀ (d a w v s : Nat) (f : Bool), w < 2 ^ d → VarAt l m d a w → a + pcs m d w * (m + 1) ≤ c → v < 2 ^ s → s ≤ 63 → w * 2 ^ s < 18446744073709551616 → (f = true ∨ w ≠ 0) →
    Ev (fun k => impl_GetVar.l0 k (a : Int) ((m + 1 : Nat) : Int) (v : Int) (s : Int) f l (c : Int)) (true, ((v + w * 2 ^ s : Nat) : Int), ((a + pcs m d w * (m + 1) : Nat) : Int)) := by
  obtain ⟨b1, b2, b3⟩ := okB_c hok
  have hc : -9223372036854775808 ≤ (c : Int) ∧ (c : Int) ≤ 9223372036854775807 := by omega
  have hn : (2 : Int) ≤ ((m + 1 : Nat) : Int) ∧ ((m + 1 : Nat) : Int) ≤ 32 := by omega
  have et : (((m + 1 : Nat) : Int)).toNat - 1 = m := by omega
  have rg : ∀ (a : Nat), a + (m + 1) ≤ c → gbF l (c : Int) (a : Int) ((m + 1 : Nat) : Int) = (true, (gW l (a : Int) (m + 1) : Int), (a : Int) + ((m + 1 : Nat) : Int)) := by
    intro a ha
    unfold gbF
    rw [if_pos hok, if_neg (by omega), if_neg (by omega), if_neg (by omega), if_neg (by omega), wrap64_id (x := (c : Int) - (a : Int)) (by omega) (by omega), if_neg (by omega), wrap64_id (by omega) (by omega), Int.toNat_natCast]
  have last : ∀ (a w v s : Nat) (f : Bool), w < 2 ^ m → gW l (a : Int) (m + 1) = w → a + 1 * (m + 1) ≤ c → v < 2 ^ s → s ≤ 63 → w * 2 ^ s < 18446744073709551616 → (f = true ∨ w ≠ 0) →
      Ev (fun k => impl_GetVar.l0 k (a : Int) ((m + 1 : Nat) : Int) (v : Int) (s : Int) f l (c : Int)) (true, ((v + w * 2 ^ s : Nat) : Int), ((a + 1 * (m + 1) : Nat) : Int)) := by
    intro a w v s f hw hg ha hv hs hws hf
    have g := rg a (by omega)
    rw [hg] at g
    have e2 := (shl_shr (P := w) (s := s) (by omega) hws).2
    have e3 := vv_at (P := w) (s := s) (by omega) hv hws
    refine impl_round l hB (c : Int) ((m + 1 : Nat) : Int) hl hc hn (a : Int) (v : Int) (s : Int) f (by omega) w 0 (by rw [et]; exact hw) (by omega) (by rw [g, et]; simp) _ ?_
    refine Ev.congr (f := fun _ => some (true, ((v + w * 2 ^ s : Nat) : Int), ((a + 1 * (m + 1) : Nat) : Int))) (fun k => ?_) (Ev.now _)
    rw [if_neg, if_pos rfl, e3, show (a : Int) + ((m + 1 : Nat) : Int) = ((a + 1 * (m + 1) : Nat) : Int) by omega]
    rintro (⟨_, h1, h2⟩ | ⟨h1, h2 | h2⟩)
    · rcases hf with hf | hf
      · rw [h2] at hf
        cases hf
      · exact hf h1
    · omega
    · exact h2 e2
  intro d
  induction d with
  | zero =>
    intro a w v s f hw hV ha hv hs hws hf
    unfold VarAt at hV
    unfold pcs at ha ⊢
    have : 0 < 2 ^ m := Nat.pow_pos (by omega)
    exact last a w v s f (by omega) hV ha hv hs hws hf
  | succ d ih =>
    intro a w v s f hw hV ha hv hs hws hf
    unfold VarAt at hV
    unfold pcs at ha ⊢
    by_cases hz : w / 2 ^ m = 0
    · rw [if_pos hz] at hV ha ⊢
      exact last a w v s f ((Nat.div_eq_zero_iff_lt (Nat.pow_pos (by omega))).1 hz) hV ha hv hs hws hf
    · rw [if_neg hz] at hV ha
      rw [if_neg hz]
      rw [pcs_mul] at ha ⊢
      obtain ⟨hg, hV⟩ := hV
      have hx : w % 2 ^ m < 2 ^ m := Nat.mod_lt _ (Nat.pow_pos (by omega))
      have hdm : w % 2 ^ m + 2 ^ m * (w / 2 ^ m) = w := Nat.mod_add_div w (2 ^ m)
      have hps : 0 < 2 ^ s := Nat.pow_pos (by omega)
      have hq1 : 1 ≤ w / 2 ^ m := Nat.pos_of_ne_zero hz
      have hge : 2 ^ m ≤ w := by
        have : 2 ^ m * 1 ≤ 2 ^ m * (w / 2 ^ m) := Nat.mul_le_mul_left _ hq1
        omega
      have hsm : s + m ≤ 63 := by
        apply Decidable.byContradiction
        intro hcon
        have h1 : 2 ^ 64 ≤ 2 ^ (m + s) := two_pow_le (by omega)
        rw [Nat.pow_add] at h1
        have h2 : 2 ^ m * 2 ^ s ≤ w * 2 ^ s := Nat.mul_le_mul_right _ hge
        omega
      have hlow : w % 2 ^ m * 2 ^ s < 18446744073709551616 := Nat.lt_of_le_of_lt (Nat.mul_le_mul_right _ (Nat.mod_le _ _)) hws
      have e2 := (shl_shr (P := w % 2 ^ m) (s := s) (by omega) hlow).2
      have e3 := vv_at (P := w % 2 ^ m) (s := s) (by omega) hv hlow
      have g := rg a (by omega)
      rw [hg] at g
      have hlt : w / 2 ^ m < 2 ^ d := by
        rw [Nat.div_lt_iff_lt_mul (Nat.pow_pos (by omega))]
        refine Nat.lt_of_lt_of_le hw ?_
        rw [← Nat.pow_add]
        exact two_pow_le (by omega)
      have hv' : v + w % 2 ^ m * 2 ^ s < 2 ^ (s + m) := by
        have h1 : (w % 2 ^ m + 1) * 2 ^ s ≤ 2 ^ m * 2 ^ s := Nat.mul_le_mul_right _ hx
        rw [Nat.add_mul, Nat.one_mul] at h1
        rw [Nat.pow_add, Nat.mul_comm (2 ^ s)]
        omega
      have hsum : v + w % 2 ^ m * 2 ^ s + w / 2 ^ m * 2 ^ (s + m) = v + w * 2 ^ s := by
        have : w * 2 ^ s = (w % 2 ^ m + 2 ^ m * (w / 2 ^ m)) * 2 ^ s := by rw [hdm]
        rw [this, Nat.add_mul, Nat.pow_add, Nat.mul_comm (2 ^ s) (2 ^ m), ← Nat.mul_assoc, Nat.mul_comm (w / 2 ^ m) (2 ^ m), Nat.add_assoc]
      have hws' : w / 2 ^ m * 2 ^ (s + m) < 18446744073709551616 := by omega
      have nx := ih (a + (m + 1)) (w / 2 ^ m) (v + w % 2 ^ m * 2 ^ s) (s + m) false hlt hV (by omega) hv' hsm hws' (Or.inr hz)
      rw [hsum] at nx
      refine impl_round l hB (c : Int) ((m + 1 : Nat) : Int) hl hc hn (a : Int) (v : Int) (s : Int) f (by omega) (w % 2 ^ m) 1 (by rw [et]; exact hx) (by omega) (by rw [g, et]; simp) _ ?_
      rw [show a + (m + 1 + pcs m d (w / 2 ^ m) * (m + 1)) = a + (m + 1) + pcs m d (w / 2 ^ m) * (m + 1) by omega]
      refine Ev.congr (fun k => ?_) nx
      rw [if_neg, if_neg (by omega), if_neg (by omega), e3, show (a : Int) + ((m + 1 : Nat) : Int) = ((a + (m + 1) : Nat) : Int) by omega, show (s : Int) + ((m + 1 : Nat) : Int) - 1 = ((s + m : Nat) : Int) by omega]
      rintro (⟨h1, _⟩ | ⟨h1, h2 | h2⟩)
      · omega
      · omega
      · exact h2 e2
end

/-! the numbers drawn -/
theorem lwAt_at (l : List Int) (hB : ∀ y ∈ l, 0 ≤ y ∧ y < 256) (hl : l.length ≤ 1048576) (a n : Int) (ha : 0 ≤ a ∧ a ≤ 10000) (hn : 2 ≤ n ∧ n ≤ 256) : ∃ r : Nat, laws_lwAt.f l a n = some (r : Int) ∧ (r : Int) < n := by
  have md : ∀ x : Int, 0 ≤ x → ∃ r : Nat, Int.tmod x n = (r : Int) ∧ (r : Int) < n := by
    intro x hx
    rw [Int.tmod_eq_emod_of_nonneg hx]
    have := Int.emod_nonneg x (show n ≠ 0 by omega)
    have := Int.emod_lt_of_pos x (show 0 < n by omega)
    exact ⟨(x % n).toNat, by omega, by omega⟩
  unfold laws_lwAt.f
  rw [if_neg (by omega)]
  by_cases h0 : (l.length : Int) = 0
  · rw [if_pos h0, if_neg (by omega), wrap64_id (by omega) (by omega)]
    obtain ⟨r, e, h⟩ := md (a * 7) (by omega)
    exact ⟨r, by rw [e], h⟩
  rw [if_neg h0]
  have i1 : 0 ≤ Int.tmod a (l.length : Int) ∧ Int.tmod a (l.length : Int) < (l.length : Int) := by
    rw [Int.tmod_eq_emod_of_nonneg (by omega)]
    exact ⟨Int.emod_nonneg _ h0, Int.emod_lt_of_pos _ (by omega)⟩
  have x1 := rd_byteN hB (Int.tmod a (l.length : Int))
  have d1 : 0 ≤ Int.tdiv a (l.length : Int) ∧ Int.tdiv a (l.length : Int) ≤ 10000 := by
    rw [Int.tdiv_eq_ediv_of_nonneg (by omega)]
    refine ⟨Int.ediv_nonneg (by omega) (by omega), ?_⟩
    have := Int.ediv_le_self (a := a) (l.length : Int) (by omega)
    omega
  rw [if_pos i1.1, if_pos i1.2, wrap64_id (x := rd l (Int.tmod a (l.length : Int))) (by omega) (by omega), wrap64_id (x := Int.tdiv a (l.length : Int)) (by omega) (by omega), wrap64_id (x := Int.tdiv a (l.length : Int) * 3) (by omega) (by omega), wrap64_id (x := rd l (Int.tmod a (l.length : Int)) + Int.tdiv a (l.length : Int) * 3) (by omega) (by omega)]
  by_cases h2 : n > 200
  · rw [if_pos h2]
    have e2 : wrap64 (a + 1) = a + 1 := wrap64_id (by omega) (by omega)
    have i2 : 0 ≤ Int.tmod (a + 1) (l.length : Int) ∧ Int.tmod (a + 1) (l.length : Int) < (l.length : Int) := by
      rw [Int.tmod_eq_emod_of_nonneg (by omega)]
      exact ⟨Int.emod_nonneg _ h0, Int.emod_lt_of_pos _ (by omega)⟩
    have x2 := rd_byteN hB (Int.tmod (a + 1) (l.length : Int))
    rw [e2, if_pos i2.1, if_pos i2.2, if_neg (by omega), wrap64_id (x := (rd l (Int.tmod a (l.length : Int)) + Int.tdiv a (l.length : Int) * 3) * 251) (by omega) (by omega), wrap64_id (x := rd l (Int.tmod (a + 1) (l.length : Int))) (by omega) (by omega), wrap64_id (by omega) (by omega)]
    obtain ⟨r, e, h⟩ := md ((rd l (Int.tmod a (l.length : Int)) + Int.tdiv a (l.length : Int) * 3) * 251 + rd l (Int.tmod (a + 1) (l.length : Int))) (by omega)
    exact ⟨r, by rw [e], h⟩
  · rw [if_neg h2, if_neg (by omega)]
    obtain ⟨r, e, h⟩ := md (rd l (Int.tmod a (l.length : Int)) + Int.tdiv a (l.length : Int) * 3) (by omega)
    exact ⟨r, by rw [e], h⟩
theorem wrap_nat (x : Int) : ∃ v : Nat, IntKind.u64.wrap x = (v : Int) ∧ v < 18446744073709551616 := by
  rw [IntKind.wrap_u64]
  exact ⟨(x % 18446744073709551616).toNat, by omega, by omega⟩
theorem lwWord_ev (l : List Int) (hB : ∀ y ∈ l, 0 ≤ y ∧ y < 256) (hl : l.length ≤ 1048576) (a : Int) (ha : 0 ≤ a ∧ a ≤ 9000) : ∃ v : Nat, v < 18446744073709551616 ∧ Ev (fun k => laws_lwWord.f k l a 64) (v : Int) := by
  have e1 : wrap64 (a + 1) = a + 1 := wrap64_id (by omega) (by omega)
  have lp : ∀ (d i x : Nat), i + d = 8 → x < 18446744073709551616 → ∃ v : Nat, v < 18446744073709551616 ∧ Ev (fun k => laws_lwWord.l0 k l a 64 (x : Int) (i : Int)) (v : Int) := by
    intro d
    induction d with
    | zero =>
      intro i x hi hx
      refine ⟨x, hx, Ev.step (f := fun _ => some (x : Int)) (fun k => ?_) (Ev.now _)⟩
      simp only [laws_lwWord.l0]
      rw [if_neg (by omega), if_neg (by omega)]
    | succ d ih =>
      intro i x hi hx
      obtain ⟨t, ht, hr⟩ := lwAt_at l hB hl (a + 1 + i) 256 (by omega) (by omega)
      obtain ⟨y, ey, hy⟩ := wrap_nat ((x : Int) * 256)
      have et : IntKind.u64.wrap (t : Int) = (t : Int) := u64w (by omega) (by omega)
      have ho : y ||| t < 2 ^ 64 := Nat.or_lt_two_pow (by omega) (by omega)
      obtain ⟨v, hv, ev⟩ := ih (i + 1) (y ||| t) (by omega) (by omega)
      refine ⟨v, hv, Ev.step (fun k => ?_) ev⟩
      simp only [laws_lwWord.l0]
      rw [if_pos (by omega), e1, wrap64_id (x := a + 1 + (i : Int)) (by omega) (by omega), ht, Option.bind_some, ey, et, u64_or_nat y t hy (by omega), wrap64_id (x := (i : Int) + 1) (by omega) (by omega)]
      rfl
  obtain ⟨t0, h0, _⟩ := lwAt_at l hB hl a 5 (by omega) (by omega)
  unfold laws_lwWord.f
  rw [h0]
  simp only [Option.bind_some, e1]
  by_cases c0 : (t0 : Int) = 0
  · simp only [if_pos c0]
    obtain ⟨t, ht, _⟩ := lwAt_at l hB hl (a + 1) 7 (by omega) (by omega)
    obtain ⟨y, ey, hy⟩ := wrap_nat (t : Int)
    rw [ht]
    simp only [Option.bind_some, if_neg (show ¬ (64 : Int) < 64 by omega), ey]
    exact ⟨y, hy, Ev.now _⟩
  simp only [if_neg c0]
  by_cases c1 : (t0 : Int) = 1
  · simp only [if_pos c1]
    obtain ⟨t, ht, _⟩ := lwAt_at l hB hl (a + 1) 7 (by omega) (by omega)
    obtain ⟨y, ey, hy⟩ := wrap_nat (-(IntKind.u64.wrap (t : Int)))
    rw [ht]
    simp only [Option.bind_some, if_neg (show ¬ (64 : Int) < 64 by omega), ey]
    exact ⟨y, hy, Ev.now _⟩
  simp only [if_neg c1]
  by_cases c2 : (t0 : Int) = 2
  · simp only [if_pos c2]
    obtain ⟨t, ht, _⟩ := lwAt_at l hB hl (a + 1) 3 (by omega) (by omega)
    obtain ⟨y, ey, hy⟩ := wrap_nat ((IntKind.u64.wrap ((shl .u64 1 (IntKind.u64.wrap (wrap64 ((64 : Int) - 1)))) - (IntKind.u64.wrap (t : Int)))) + 1)
    rw [ht]
    simp only [Option.bind_some, if_neg (show ¬ (64 : Int) < 64 by omega), ey]
    have e63 : (0 : Int) ≤ IntKind.u64.wrap (wrap64 ((64 : Int) - 1)) := by
      obtain ⟨q, eq, _⟩ := wrap_nat (wrap64 ((64 : Int) - 1))
      rw [eq]
      omega
    simp only [if_pos e63]
    exact ⟨y, hy, Ev.now _⟩
  simp only [if_neg c2]
  exact lp 8 0 0 (by omega) (by omega)
/-! what lies in the bits, in order -/
def Coded (l : List Int) (a : Nat) (k w : Int) (a' : Nat) : Prop :=
  (∃ n : Nat, 1 ≤ n ∧ n ≤ 64 ∧ k = -(n : Int) ∧ a' = a + n ∧ w = (gW l (a : Int) n : Int)) ∨
  (∃ m v : Nat, 1 ≤ m ∧ m ≤ 31 ∧ v < 18446744073709551616 ∧ k = ((m + 1 : Nat) : Int) ∧ w = (v : Int) ∧ a' = a + pcs m 64 v * (m + 1) ∧ VarAt l m 64 a v)
theorem Coded_lt {l : List Int} {a a' : Nat} {k w : Int} (h : Coded l a k w a') : a < a' := by
  rcases h with ⟨n, h1, _, _, h4, _⟩ | ⟨m, v, _, _, _, _, _, h6, _⟩
  · omega
  · have := pcs_pos m 64 v
    have h2 : 1 * (m + 1) ≤ pcs m 64 v * (m + 1) := Nat.mul_le_mul_right _ this
    omega
theorem Coded_agr {l l' : List Int} {c a a' : Nat} {k w : Int} (hg : Agr l l' c) (hc : a' ≤ c) (h : Coded l a k w a') : Coded l' a k w a' := by
  rcases h with ⟨n, h1, h2, h3, h4, h5⟩ | ⟨m, v, h1, h2, h3, h4, h5, h6, h7⟩
  · exact Or.inl ⟨n, h1, h2, h3, h4, by rw [gW_agr hg a n (by omega)]; exact h5⟩
  · exact Or.inr ⟨m, v, h1, h2, h3, h4, h5, h6, VarAt_agr hg 64 a v (by omega) h7⟩
def Chain (l : List Int) : List Int → List Int → Nat → Nat → Prop
  | [], [], a, c => a = c
  | k :: ks, w :: ws, a, c => ∃ a', Coded l a k w a' ∧ Chain l ks ws a' c
  | _, _, _, _ => False
theorem Chain_le {l : List Int} : ∀ (ks ws : List Int) (a c : Nat), Chain l ks ws a c → a ≤ c := by
  intro ks
  induction ks with
  | nil =>
    intro ws a c h
    cases ws with
    | nil => exact Nat.le_of_eq h
    | cons w ws => exact h.elim
  | cons k ks ih =>
    intro ws a c h
    cases ws with
    | nil => exact h.elim
    | cons w ws =>
      obtain ⟨a', h1, h2⟩ := h
      have := Coded_lt h1
      have := ih ws a' c h2
      omega
theorem Chain_snoc {l l' : List Int} {c c' : Nat} {k w : Int} (hg : Agr l l' c) (hx : Coded l' c k w c') : ∀ (ks ws : List Int) (a : Nat), Chain l ks ws a c → Chain l' (ks ++ [k]) (ws ++ [w]) a c' := by
  intro ks
  induction ks with
  | nil =>
    intro ws a h
    cases ws with
    | nil =>
      obtain rfl : a = c := h
      exact ⟨c', hx, rfl⟩
    | cons w ws => exact h.elim
  | cons k1 ks ih =>
    intro ws a h
    cases ws with
    | nil => exact h.elim
    | cons w1 ws =>
      obtain ⟨a', h1, h2⟩ := h
      have := Chain_le ks ws a' c h2
      exact ⟨a', Coded_agr hg this h1, ih ws a' h2⟩
theorem rd_drop {l xs : List Int} {x : Int} {j : Nat} (h : l.drop j = x :: xs) : j < l.length ∧ rd l (j : Int) = x ∧ l.drop (j + 1) = xs := by
  have hj : j < l.length := by
    have := congrArg List.length h
    simp at this
    omega
  rw [List.drop_eq_getElem_cons hj] at h
  injection h with h1 h2
  exact ⟨hj, by rw [rd_at hj]; exact h1, h2⟩
theorem idx_next (j : Nat) (h : j < 1000) : wrap64 ((j : Int) + 1) = ((j + 1 : Nat) : Int) := by
  unfold wrap64
  omega
theorem idx_neg (m : Nat) (h : m ≤ 64) : wrap64 (-(-(m : Int))) = (m : Int) := by rw [Int.neg_neg, wrap64_id (by omega) (by omega)]
theorem idx11 (i : Nat) (h : i < 1000) : wrap64 (11 * (i : Int)) = 11 * (i : Int) ∧ wrap64 (11 * (i : Int) + 1) = 11 * (i : Int) + 1 ∧ wrap64 (11 * (i : Int) + 2) = 11 * (i : Int) + 2 ∧ wrap64 (11 * (i : Int) + 3) = 11 * (i : Int) + 3 ∧ wrap64 (11 * (i : Int) + 4) = 11 * (i : Int) + 4 :=
  ⟨wrap64_id (by omega) (by omega), wrap64_id (by omega) (by omega), wrap64_id (by omega) (by omega), wrap64_id (by omega) (by omega), wrap64_id (by omega) (by omega)⟩
theorem idx_k (t4 c : Nat) (h : t4 < 64) (hc : c ≤ 1000000) : wrap64 ((-1 : Int) - (t4 : Int)) = -((t4 + 1 : Nat) : Int) ∧ wrap64 (64 + -((t4 + 1 : Nat) : Int)) = ((63 - t4 : Nat) : Int) ∧ IntKind.u64.wrap ((63 - t4 : Nat) : Int) = ((63 - t4 : Nat) : Int) ∧ wrap64 (-(-((t4 + 1 : Nat) : Int))) = ((t4 + 1 : Nat) : Int) ∧ wrap64 ((c : Int) - -((t4 + 1 : Nat) : Int)) = ((c + (t4 + 1) : Nat) : Int) := by
  refine ⟨?_, ?_, u64w (by omega) (by omega), idx_neg _ (by omega), ?_⟩
  · rw [wrap64_id (by omega) (by omega)]
    omega
  · rw [wrap64_id (by omega) (by omega)]
    omega
  · rw [wrap64_id (by omega) (by omega)]
    omega
theorem idx_m (t2 m : Nat) (em : m = t2 + 1) (h : t2 < 100) : wrap64 (2 + (t2 : Int)) = ((m + 1 : Nat) : Int) ∧ wrap64 (((m + 1 : Nat) : Int) - 1) = (m : Int) ∧ IntKind.u64.wrap (m : Int) = (m : Int) := by
  refine ⟨?_, ?_, u64w (by omega) (by omega)⟩
  · rw [wrap64_id (by omega) (by omega)]
    omega
  · rw [wrap64_id (by omega) (by omega)]
    omega
theorem idx_pm (c pm : Nat) (hc : c ≤ 1000000) (hp : pm ≤ 1000000) : wrap64 ((pm : Nat) : Int) = (pm : Int) ∧ wrap64 ((c : Int) + (pm : Int)) = ((c + pm : Nat) : Int) := by
  refine ⟨wrap64_id (by omega) (by omega), ?_⟩
  rw [wrap64_id (by omega) (by omega)]
  omega
theorem idx_end (c : Nat) (h : c ≤ 10000000) : wrap64 (Int.tdiv (wrap64 ((c : Int) + 7)) 8) = (((c + 7) / 8 : Nat) : Int) := by
  rw [wrap64_id (x := (c : Int) + 7) (by omega) (by omega), Int.tdiv_eq_ediv_of_nonneg (by omega), wrap64_id (by omega) (by omega)]
  omega
/-- Everything is read again, and then nothing is left. -/
theorem read_all (L : List Int) (C : Nat) (hB : ∀ y ∈ L, 0 ≤ y ∧ y < 256) (hl : L.length ≤ 1048576) (hok : okB L (C : Int) = true) (K W : List Int) (n : Nat) (hn : K.length = n) (hn2 : n ≤ 1000) :
    ∀ (ks ws : List Int) (j a : Nat), K.drop j = ks → W.drop j = ws → j ≤ n → Chain L ks ws a C → Ev (fun k => laws_FnBits.l2 k W K (n : Int) (a : Int) (j : Int) L (C : Int)) true := by
  obtain ⟨b1, b2, b3⟩ := okB_c hok
  have hc : -9223372036854775808 ≤ (C : Int) ∧ (C : Int) ≤ 9223372036854775807 := by omega
  intro ks
  induction ks with
  | nil =>
    intro ws j a hk hw hj h
    have hjn : j = n := by
      have := congrArg List.length hk
      simp at this
      omega
    subst hjn
    cases ws with
    | cons w ws => exact h.elim
    | nil =>
      obtain rfl : a = C := h
      have g : gbF L (a : Int) (a : Int) 1 = (false, 0, 0) := by
        unfold gbF
        rw [if_pos hok, if_neg (by omega), if_neg (by omega), if_neg (by omega), if_neg (by omega), wrap64_id (by omega) (by omega), if_pos (by omega)]
      have e := impl_get_at L hB (a : Int) (a : Int) 1 hl hc
      rw [g] at e
      refine Ev.step (fun k => ?_) (Ev.bind (f := fun _ (t : Bool × Int × Int) => some (!t.1)) e (Ev.now _))
      simp only [laws_FnBits.l2]
      rw [if_neg (by omega), if_pos trivial]
  | cons k ks ih =>
    intro ws j a hk hw hj h
    cases ws with
    | nil => exact h.elim
    | cons w ws =>
      obtain ⟨a', hx, hr⟩ := h
      obtain ⟨k1, k2, k3⟩ := rd_drop hk
      obtain ⟨w1, w2, w3⟩ := rd_drop hw
      have hlt := Coded_lt hx
      have hle := Chain_le ks ws a' C hr
      have nx := ih ws (j + 1) a' k3 w3 (by omega) hr
      have jw : (j : Int) < (W.length : Int) := by omega
      have na : ¬ (a' : Int) ≤ (a : Int) := by omega
      have ej := idx_next j (by omega)
      have HEj := Aside0.mk ej
      clear ej
      rcases hx with ⟨m, h1, h2, rfl, h4, rfl⟩ | ⟨m, v, h1, h2, h3, rfl, rfl, h6, h7⟩
      · have g : gbF L (C : Int) (a : Int) (m : Int) = (true, (gW L (a : Int) m : Int), (a' : Int)) := by
          unfold gbF
          rw [if_pos hok, if_neg (by omega), if_neg (by omega), if_neg (by omega), if_neg (by omega), wrap64_id (x := (C : Int) - (a : Int)) (by omega) (by omega), if_neg (by omega), wrap64_id (by omega) (by omega), Int.toNat_natCast, show (a : Int) + (m : Int) = (a' : Int) by omega]
        have e := impl_get_at L hB (C : Int) (a : Int) (m : Int) hl hc
        rw [g] at e
        refine Ev.step (fun q => ?_) (Ev.bind (f := fun q (t : Bool × Int × Int) => (if t.1 = true then (if (j : Int) < (W.length : Int) then (if t.2.1 = (rd W (j : Int)) then (if t.2.2 ≤ (a : Int) then (some false) else (laws_FnBits.l2 q W K (n : Int) t.2.2 ((j + 1 : Nat) : Int) L (C : Int))) else (some false)) else (none)) else (some false))) e ?_)
        · simp only [laws_FnBits.l2]
          rw [if_pos (by omega), if_pos (by omega), if_pos (by omega), k2, if_pos (by omega), idx_neg m (by omega), HEj.out]
        · refine Ev.congr (fun q => ?_) nx
          simp only [if_true, w2, if_pos jw, if_neg na]
      · have e := var_get L hB C hl hok m ⟨h1, h2⟩ 64 a v 0 0 true (by omega) h7 (by omega) (by omega) (by omega) (by omega) (Or.inl rfl)
        rw [Nat.pow_zero, Nat.mul_one, Nat.zero_add, ← h6] at e
        have e2 : Ev (fun q => impl_GetVar.f q L (C : Int) (a : Int) ((m + 1 : Nat) : Int)) (true, (v : Int), (a' : Int)) := by
          unfold impl_GetVar.f
          simp only [if_neg (show ¬ ((m + 1 : Nat) : Int) < 2 by omega), decide_eq_false (show ¬ ((m + 1 : Nat) : Int) > 32 by omega)]
          refine Ev.step (fun q => ?_) e
          simp only [impl_GetVar.j0, Bool.false_eq_true, if_false]
          rfl
        refine Ev.step (fun q => ?_) (Ev.bind (f := fun q (t : Bool × Int × Int) => (if t.1 = true then (if (j : Int) < (W.length : Int) then (if t.2.1 = (rd W (j : Int)) then (if t.2.2 ≤ (a : Int) then (some false) else (laws_FnBits.l2 q W K (n : Int) t.2.2 ((j + 1 : Nat) : Int) L (C : Int))) else (some false)) else (none)) else (some false))) e2 ?_)
        · simp only [laws_FnBits.l2]
          rw [if_pos (by omega), if_pos (by omega), if_pos (by omega), k2, if_neg (by omega), HEj.out]
        · refine Ev.congr (fun q => ?_) nx
          simp only [if_true, w2, if_pos jw, if_neg na]
/-- The pieces are counted as they were put. -/
theorem count_pieces (x0 x4 x5 : List Int) (x6 x7 x8 x10 : Int) (L : List Int) (c' : Int) (m : Nat) (hm : 1 ≤ m ∧ m ≤ 31) (r : Bool) : ∀ (d v p : Nat), v < 2 ^ d → d ≤ 64 → p + d ≤ 1000 →
    Ev (fun k => laws_FnBits.l1 k x0 x4 x5 x6 x7 x8 ((m + 1 : Nat) : Int) x10 ((p + pcs m d v - 1 : Nat) : Int) 0 L c') r → Ev (fun k => laws_FnBits.l1 k x0 x4 x5 x6 x7 x8 ((m + 1 : Nat) : Int) x10 (p : Int) ((v / 2 ^ m : Nat) : Int) L c') r := by
  intro d
  induction d with
  | zero =>
    intro v p hv _ _ h
    have hz : v / 2 ^ m = 0 := by
      rw [show v = 0 by omega]
      simp
    rw [hz]
    exact h
  | succ d ih =>
    intro v p hv hd hp h
    unfold pcs at h
    by_cases hz : v / 2 ^ m = 0
    · rw [if_pos hz] at h
      rw [hz]
      exact h
    · rw [if_neg hz] at h
      have hlt : v / 2 ^ m < 2 ^ d := by
        rw [Nat.div_lt_iff_lt_mul (Nat.pow_pos (by omega))]
        refine Nat.lt_of_lt_of_le hv ?_
        rw [← Nat.pow_add]
        exact two_pow_le (by omega)
      have p1 := pcs_pos m d (v / 2 ^ m)
      have q := ih (v / 2 ^ m) (p + 1) hlt (by omega) (by omega) (by rw [show p + 1 + pcs m d (v / 2 ^ m) - 1 = p + (1 + pcs m d (v / 2 ^ m)) - 1 by omega]; exact h)
      have e1 : wrap64 (((m + 1 : Nat) : Int) - 1) = (m : Int) := by rw [wrap64_id (by omega) (by omega)]; omega
      have e2 : IntKind.u64.wrap (m : Int) = (m : Int) := u64w (by omega) (by omega)
      have e3 : wrap64 ((p : Int) + 1) = ((p + 1 : Nat) : Int) := by
        unfold wrap64
        omega
      refine Ev.step (fun k => ?_) q
      simp only [laws_FnBits.l1]
      rw [if_neg (by omega), e1, e2, if_pos (by omega), e3, shr_nat (by omega)]
theorem right_ok {l : List Int} {c : Nat} (h : BW l c) (hc : c ≤ 8388608) (hl : l.length ≤ 1048576) : Ev (fun k => impl_right.f k l (c : Int)) (l, (c : Int)) := by
  have e := impl_right_ev l (c : Int) hl (by omega)
  unfold startL startC at e
  rw [if_pos (BW_okB h hc), if_pos (BW_okB h hc), Int.toNat_natCast] at e
  exact e
theorem fits_yes (u m : Nat) (h : 1 ≤ m ∧ m ≤ 64) (hz : u / 2 ^ m = 0) : impl_fits.f (u : Int) (m : Int) = some true := by
  unfold impl_fits.f
  rw [if_pos (by omega), if_pos (by omega)]
  by_cases q : (m : Int) = 64
  · rw [if_pos q]
  · rw [if_neg q, if_pos (by omega), shr_nat (by omega), hz]
    rfl
/-- Everything is put. -/
theorem write_all (code : List Int) (hB : ∀ y ∈ code, 0 ≤ y ∧ y < 256) (hl : code.length ≤ 1048576) (n : Nat) (hn : n ≤ 20) : ∀ (d i : Nat) (W K L : List Int) (c : Nat), i + d = n → W.length = i → K.length = i → BW L c → c ≤ 3000 * i → Chain L K W 0 c →
    Ev (fun k => laws_FnBits.l0 k code W K (n : Int) (i : Int) L (c : Int)) true := by
  intro d
  induction d with
  | zero =>
    intro i W K L c hi hW hK hb hc hch
    have hlen := hb.2.1
    have ok := BW_okB hb (by omega)
    refine Ev.step (fun k => ?_) (read_all L c hb.1 (by omega) ok K W n (by omega) (by omega) K W 0 0 rfl rfl (by omega) hch)
    have h1 : ¬ (i : Int) < (n : Int) := by omega
    have h2 : (L.length : Int) = (((c + 7) / 8 : Nat) : Int) := by omega
    have e := idx_end c (by omega)
    simp only [laws_FnBits.l0, if_neg h1, e, if_pos h2]
    rfl
  | succ d ih =>
    intro i W K L c hi hW hK hb hc hch
    have hlen := hb.2.1
    have hin : (i : Int) < (n : Int) := by omega
    have hWb : W.length < 17592186044416 := by omega
    have hKb : K.length < 17592186044416 := by omega
    have hc8 : c ≤ 60000 := by omega
    obtain ⟨v, hv, ev⟩ := lwWord_ev code hB hl (11 * (i : Int) + 1) (by omega)
    obtain ⟨t2, h2, b2⟩ := lwAt_at code hB hl (11 * (i : Int) + 2) 12 (by omega) (by omega)
    obtain ⟨t3, h3, b3⟩ := lwAt_at code hB hl (11 * (i : Int) + 3) 2 (by omega) (by omega)
    have ri := right_ok hb (by omega) (by omega)
    by_cases h0 : (t3 : Int) = 0
    · obtain ⟨t4, h4, b4⟩ := lwAt_at code hB hl (11 * (i : Int) + 4) 64 (by omega) (by omega)
      have b5 : t4 < 64 := by omega
      have hu : v / 2 ^ (63 - t4) < 2 ^ (t4 + 1) := by
        rw [Nat.div_lt_iff_lt_mul (Nat.pow_pos (by omega)), ← Nat.pow_add, show t4 + 1 + (63 - t4) = 64 by omega]
        exact hv
      have hu2 : v / 2 ^ (63 - t4) < 18446744073709551616 := Nat.lt_of_le_of_lt (Nat.div_le_self _ _) hv
      have es := shr_nat (v := v) (i := 63 - t4) (by omega)
      generalize v / 2 ^ (63 - t4) = u at hu hu2 es
      have hz : u / 2 ^ (t4 + 1) = 0 := Nat.div_eq_of_lt hu
      have pe : Ev (fun k => impl_PutBits.f k L (c : Int) (u : Int) ((t4 + 1 : Nat) : Int)) (putN u (t4 + 1) 0 L c, ((c + (t4 + 1) : Nat) : Int)) := by
        unfold impl_PutBits.f
        refine Ev.bind ri ?_
        rw [fits_yes u (t4 + 1) (by omega) hz]
        simp only [Option.bind_some, if_true]
        unfold impl_Bits_put.f
        exact impl_put_ev hu2 (by omega) (t4 + 1) 0 L c hb (by omega) (by omega)
      have ag := (putN_agr (v := u) (t4 + 1) 0 L c hb).1
      have gw : gW (putN u (t4 + 1) 0 L c) (c : Int) (t4 + 1) = u := by rw [gW_put hb, Nat.mod_eq_of_lt hu]
      have nx := ih (i + 1) (W ++ [(u : Int)]) (K ++ [-((t4 + 1 : Nat) : Int)]) (putN u (t4 + 1) 0 L c) (c + (t4 + 1)) (by omega) (by rw [List.length_append, hW]; rfl) (by rw [List.length_append, hK]; rfl) (BW_putN _ _ _ _ hb) (by omega)
        (Chain_snoc ag (Or.inl ⟨t4 + 1, by omega, by omega, rfl, rfl, by rw [gw]⟩) K W 0 hch)
      have p1 : (0 : Int) ≤ ((63 - t4 : Nat) : Int) := by omega
      have l2 : i < 1000 := by omega
      have l4 : c ≤ 1000000 := by omega
      obtain ⟨k1, k2, k3, k4, k5⟩ := idx_k t4 c b5 l4
      obtain ⟨g11, g1, g2, g3, g4⟩ := idx11 i l2
      have ei := idx_next i l2
      refine Ev.step (fun k => ?_) (Ev.bind (f := fun k (t : Int) => (impl_PutBits.f k L (c : Int) (shr .u64 t ((63 - t4 : Nat) : Int)) ((t4 + 1 : Nat) : Int)).bind fun bt135 => (if bt135.2 = ((c + (t4 + 1) : Nat) : Int) then (if W.length < 17592186044416 then (if K.length < 17592186044416 then (laws_FnBits.l0 k code (W ++ [shr .u64 t ((63 - t4 : Nat) : Int)]) (K ++ [-((t4 + 1 : Nat) : Int)]) (n : Int) ((i + 1 : Nat) : Int) bt135.1 bt135.2) else (none)) else (none)) else (some false))) ev ?_)
      · simp only [laws_FnBits.l0, if_pos hin, g11, g1, g2, g3, g4, h2, h3, h4, ei, Option.bind_some, if_pos h0, k1, k2, k3, k4, k5, if_pos p1]
      · simp only [es]
        refine Ev.bind pe ?_
        refine Ev.congr (fun k => ?_) nx
        simp only [if_true, if_pos hWb, if_pos hKb]
    · obtain ⟨m, em⟩ : ∃ m, m = t2 + 1 := ⟨_, rfl⟩
      have hm : 1 ≤ m ∧ m ≤ 31 := by omega
      obtain ⟨L', q1, q2, q3, q4⟩ := var_put hm 64 L c v hv (by omega) hb (by omega)
      have pp := pcs_pos m 64 v
      have pl := pcs_le m 64 v
      have hpm : pcs m 64 v * (m + 1) ≤ 65 * 13 := Nat.mul_le_mul pl (by omega)
      have ep : (((pcs m 64 v : Nat) : Int)) * ((m + 1 : Nat) : Int) = ((pcs m 64 v * (m + 1) : Nat) : Int) := by rw [Int.natCast_mul]
      have cp0 := count_pieces code W K (n : Int) (i : Int) (v : Int) (c : Int) L' ((c + pcs m 64 v * (m + 1) : Nat) : Int) m hm true 64 v 1 hv (by omega) (by omega)
      rw [show 1 + pcs m 64 v - 1 = pcs m 64 v by omega] at cp0
      have pe : Ev (fun k => impl_PutVar.f k L (c : Int) (v : Int) ((m + 1 : Nat) : Int)) (L', ((c + pcs m 64 v * (m + 1) : Nat) : Int)) := by
        unfold impl_PutVar.f
        refine Ev.bind ri ?_
        simp only [if_pos (show ((m + 1 : Nat) : Int) ≥ 2 by omega), if_pos (show ((m + 1 : Nat) : Int) ≤ 32 by omega)]
        unfold impl_Bits_putVar.f
        exact q4
      have cd : Coded L' c ((m + 1 : Nat) : Int) (v : Int) (c + pcs m 64 v * (m + 1)) := Or.inr ⟨m, v, hm.1, hm.2, hv, rfl, rfl, rfl, q3⟩
      generalize pcs m 64 v = pc at *
      generalize hpm2 : pc * (m + 1) = pm at *
      have nx := ih (i + 1) (W ++ [(v : Int)]) (K ++ [((m + 1 : Nat) : Int)]) L' (c + pm) (by omega) (by rw [List.length_append, hW]; rfl) (by rw [List.length_append, hK]; rfl) q1 (by omega) (Chain_snoc q2 cd K W 0 hch)
      have p1 : (0 : Int) ≤ (m : Int) := by omega
      have es := shr_nat (v := v) (i := m) (by omega)
      have l1 : t2 < 100 := by omega
      have l2 : i < 1000 := by omega
      have l3 : pm ≤ 1000000 := by omega
      have l4 : c ≤ 1000000 := by omega
      obtain ⟨w1, w2⟩ := idx_pm c pm l4 l3
      obtain ⟨k1, k2, k3⟩ := idx_m t2 m em l1
      obtain ⟨g11, g1, g2, g3, _⟩ := idx11 i l2
      have ei := idx_next i l2
      have cp := cp0 (by
        refine Ev.step (fun k => ?_) nx
        simp only [laws_FnBits.l1, if_true, ep, w1, w2, if_pos hWb, if_pos hKb, ei])
      refine Ev.step (fun k => ?_) (Ev.bind (f := fun k (t : Int) => (impl_PutVar.f k L (c : Int) t ((m + 1 : Nat) : Int)).bind fun bt145 => (laws_FnBits.l1 k code W K (n : Int) (i : Int) t ((m + 1 : Nat) : Int) (c : Int) 1 (shr .u64 t (m : Int)) bt145.1 bt145.2)) ev ?_)
      · simp only [laws_FnBits.l0, if_pos hin, g11, g1, g2, g3, h2, h3, Option.bind_some, if_neg h0, k1, k2, k3, if_pos p1]
      · simp only [es]
        exact Ev.bind pe cp
theorem FnBits : laws_FnBits.Pure := by
  intro code hl _ hw
  have hB : ∀ y ∈ code, 0 ≤ y ∧ y < 256 := by
    intro y h
    have := hw y h
    simp [Lit.wf, IntKind.min, IntKind.max, IntKind.signed, IntKind.bits] at this
    omega
  unfold laws_FnBits.f
  by_cases h : (code.length : Int) > 1048576
  · exact ⟨0, by rw [if_pos h]⟩
  simp only [if_neg h]
  obtain ⟨t, ht, bt⟩ := lwAt_at code hB (by omega) 0 20 (by omega) (by omega)
  rw [ht]
  simp only [Option.bind_some]
  have e : wrap64 (1 + (t : Int)) = ((t + 1 : Nat) : Int) := by rw [wrap64_id (by omega) (by omega)]; omega
  rw [e]
  exact Ev.rounds (write_all code hB (by omega) (t + 1) (by omega) (t + 1) 0 [] [] [] 0 (by omega) rfl rfl BW_nil (by omega) rfl)

end Go.Proofs.Ythfhenhlfedfmaa.Pure
