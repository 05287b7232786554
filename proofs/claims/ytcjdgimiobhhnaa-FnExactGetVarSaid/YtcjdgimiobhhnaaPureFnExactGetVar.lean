/- Both programs read the same numbers. -/
import Derived.Test.YtcjdgimiobhhnaaOpenFnExactGetVar
import Derived.Test.YtcjdgimiobhhnaaPlGen
import Derived.Laws.BitsAllLaws
import Derived.Laws.Bits64
namespace Go.Proofs.Ytcjdgimiobhhnaa.Pure
open Go.RowKit Go.Proofs.Ytcjdgimiobhhnaa.QFnExactGetVar Go.Proofs.Ytcjdgimiobhhnaa.OpenFnExactGetVar Go.Proofs.YtcjdgimiobhhnaaW.PrintWords Go.Proofs.YtcjdgimiobhhnaaW.PrintLast Go.Proofs.YtcjdgimiobhhnaaW.PrintMore Go.Proofs.Ytcjdgimiobhhnaa.RowOpen Go.Proofs.Ytcjdgimiobhhnaa.PlGen
set_option linter.unusedSimpArgs false
set_option linter.unusedVariables false
set_option linter.unusedSectionVars false
set_option maxHeartbeats 4000000

theorem laws_szByteS_at (l : List Int) (left : Int) (hl : l.length ≤ 9223372036854775807) (h0 : 0 ≤ left) (h1 : left ≤ 1048576) : laws_szByteS.f l left = some (if left - (l.length : Int) < 0 then -1 else left - l.length) := by
  unfold laws_szByteS.f
  rw [wrap64_id (by omega) (by omega)]
  split <;> rfl

theorem laws_toByteS_ev (l : List Int) (hl : l.length ≤ 1048576) : Ev (fun k => laws_toByteS.f k l) l := by
  have := copy_loop (fun k ys i => laws_toByteS.l0 k l ys i) l (fun x => x) (fun k ys => by simp only [laws_toByteS.l0]; rw [if_neg (by omega)])
    (fun i hi ys hy r h => by
      refine Ev.step (f := fun k => laws_toByteS.l0 k l (ys.set i l[i]) ((i + 1 : Nat) : Int)) (fun k => ?_) h
      simp only [laws_toByteS.l0]
      rw [if_pos (by omega), if_pos (by omega), if_pos (by omega), rd_at hi, wrap64_next hi (by omega)]
      rfl) (List.replicate ((l.length : Int)).toNat 0) (by simp)
  rw [List.map_id'] at this
  refine Ev.congr (fun k => ?_) this
  unfold laws_toByteS.f
  rw [if_pos (by omega), if_pos (by omega)]

theorem laws_eqByteS_ev (l : List Int) (hl : l.length ≤ 1099511627776) : Ev (fun k => laws_eqByteS.f k l l) true := by
  have := eq_loop (fun k i => laws_eqByteS.l0 k l l i) l.length (fun k => by simp only [laws_eqByteS.l0]; rw [if_neg (by omega)])
    (fun i hi h => by
      refine Ev.step (f := fun k => laws_eqByteS.l0 k l l ((i + 1 : Nat) : Int)) (fun k => ?_) h
      simp only [laws_eqByteS.l0]
      rw [if_pos (by omega), if_pos (by omega), if_pos (by omega), if_pos trivial, wrap64_next hi (by omega)])
  refine Ev.congr (fun k => ?_) this
  unfold laws_eqByteS.f
  rw [if_pos rfl]


/-! bits: which are well formed, and reading them -/
theorem u64w {n : Int} (h0 : 0 ≤ n) (h1 : n ≤ 9223372036854775807) : IntKind.u64.wrap n = n := by
  rw [show IntKind.u64.wrap n = n % 18446744073709551616 by simp [IntKind.wrap, IntKind.bits, IntKind.signed]]
  omega
/-- The bytes and the count belong together. -/
def okB (l : List Int) (c : Int) : Bool := decide (0 ≤ c ∧ c ≤ 8388608 ∧ (l.length : Int) = (c + 7) / 8 ∧ (c % 8 = 0 ∨ shr .u8 (rd l ((l.length : Int) - 1)) (c % 8) = 0))
theorem okB_c {l : List Int} {c : Int} (h : okB l c = true) : 0 ≤ c ∧ c ≤ 8388608 ∧ (l.length : Int) = (c + 7) / 8 := by
  simp only [okB, decide_eq_true_eq] at h
  omega
theorem tdiv_far {c : Int} (h0 : 9223372036854775800 < c) (h1 : c ≤ 9223372036854775807) : wrap64 (Int.tdiv (wrap64 (c + 7)) 8) < 0 := by
  have e : wrap64 (c + 7) = -(18446744073709551616 - (c + 7)) := by
    unfold wrap64
    omega
  rw [e, Int.neg_tdiv, Int.tdiv_eq_ediv_of_nonneg (by omega)]
  unfold wrap64
  omega
theorem tdiv_near {c : Int} (h0 : 0 ≤ c) (h1 : c ≤ 9223372036854775800) : wrap64 (Int.tdiv (wrap64 (c + 7)) 8) = (c + 7) / 8 := by
  rw [wrap64_id (x := c + 7) (by omega) (by omega), Int.tdiv_eq_ediv_of_nonneg (by omega), wrap64_id (by omega) (by omega)]

theorem spec_ok_at (l : List Int) (c : Int) (hl : l.length ≤ 1048576) (hc : -9223372036854775808 ≤ c ∧ c ≤ 9223372036854775807) (k : Nat) : spec_l6Ok.f (k + 1) l c = some (okB l c) := by
  have no : ¬ (0 ≤ c ∧ c ≤ 8388608 ∧ (l.length : Int) = (c + 7) / 8) → okB l c = false := by
    intro h
    simp only [okB, decide_eq_false_iff_not]
    omega
  unfold spec_l6Ok.f
  by_cases h1 : c < 0
  · rw [if_pos h1, no (by omega)]
    simp only [spec_l6Ok.j0, if_true]
  rw [if_neg h1]
  by_cases h2 : (l.length : Int) = wrap64 (Int.tdiv (wrap64 (c + 7)) 8)
  · rw [if_pos h2]
    have h3 : c ≤ 9223372036854775800 := by
      apply Decidable.byContradiction
      intro h
      have := tdiv_far (c := c) (by omega) (by omega)
      omega
    rw [tdiv_near (by omega) h3] at h2
    have h4 : (decide (c > 1099511627776)) = false := decide_eq_false (by omega)
    rw [h4]
    simp only [spec_l6Ok.j0, Bool.false_eq_true, if_false, Int.tmod_eq_emod_of_nonneg (show 0 ≤ c by omega)]
    by_cases h5 : c % 8 = 0
    · rw [if_pos h5]
      have : okB l c = true := by
        simp only [okB, decide_eq_true_eq]
        omega
      rw [this]
    rw [if_neg h5, wrap64_id (x := (l.length : Int) - 1) (by omega) (by omega), if_pos (by omega), if_pos (by omega), u64w (by omega) (by omega), if_pos (by omega)]
    by_cases h6 : shr .u8 (rd l ((l.length : Int) - 1)) (c % 8) = 0
    · rw [if_pos h6]
      have : okB l c = true := by
        simp only [okB, decide_eq_true_eq]
        exact ⟨by omega, by omega, h2, Or.inr h6⟩
      rw [this]
    · rw [if_neg h6]
      have : okB l c = false := by
        simp only [okB, decide_eq_false_iff_not]
        rintro ⟨_, _, _, h | h⟩
        · exact h5 h
        · exact h6 h
      rw [this]
  · rw [if_neg h2]
    have : okB l c = false := no (by
      rintro ⟨_, _, h⟩
      rw [tdiv_near (by omega) (by omega)] at h2
      exact h2 h)
    rw [this]
    simp only [spec_l6Ok.j0, if_true]

theorem impl_ok_at (l : List Int) (c : Int) (hl : l.length ≤ 1048576) (hc : -9223372036854775808 ≤ c ∧ c ≤ 9223372036854775807) (k : Nat) : impl_bitsOk.f (k + 1) l c = some (okB l c) := by
  have no : ¬ (0 ≤ c ∧ c ≤ 8388608 ∧ (l.length : Int) = (c + 7) / 8) → okB l c = false := by
    intro h
    simp only [okB, decide_eq_false_iff_not]
    omega
  unfold impl_bitsOk.f
  by_cases h1 : c < 0
  · rw [if_pos h1, no (by omega)]
    simp only [impl_bitsOk.j0, if_true]
  rw [if_neg h1]
  have e : wrap64 ((wrap64 (Int.tdiv c 8)) + (wrap64 (Int.tdiv (wrap64 ((Int.tmod c 8) + 7)) 8))) = c / 8 + (c % 8 + 7) / 8 := by
    rw [Int.tdiv_eq_ediv_of_nonneg (show 0 ≤ c by omega), Int.tmod_eq_emod_of_nonneg (show 0 ≤ c by omega), wrap64_id (x := c % 8 + 7) (by omega) (by omega), Int.tdiv_eq_ediv_of_nonneg (by omega), wrap64_id (x := c / 8) (by omega) (by omega), wrap64_id (x := (c % 8 + 7) / 8) (by omega) (by omega), wrap64_id (by omega) (by omega)]
  rw [e]
  by_cases h2 : (l.length : Int) = c / 8 + (c % 8 + 7) / 8
  · have h3 : ((l.length : Int) != c / 8 + (c % 8 + 7) / 8) = false := by
      rw [h2]
      exact bne_self_eq_false _
    rw [h3]
    simp only [impl_bitsOk.j0, Bool.false_eq_true, if_false, Int.tmod_eq_emod_of_nonneg (show 0 ≤ c by omega)]
    by_cases h5 : c % 8 = 0
    · rw [if_neg (by omega)]
      have : okB l c = true := by
        simp only [okB, decide_eq_true_eq]
        omega
      rw [this]
    rw [if_pos (by omega), wrap64_id (x := (l.length : Int) - 1) (by omega) (by omega), if_pos (by omega), if_pos (by omega), if_pos (by omega)]
    by_cases h6 : shr .u8 (rd l ((l.length : Int) - 1)) (c % 8) = 0
    · rw [if_pos h6]
      have : okB l c = true := by
        simp only [okB, decide_eq_true_eq]
        exact ⟨by omega, by omega, by omega, Or.inr h6⟩
      rw [this]
    · rw [if_neg h6]
      have : okB l c = false := by
        simp only [okB, decide_eq_false_iff_not]
        rintro ⟨_, _, _, h | h⟩
        · exact h5 h
        · exact h6 h
      rw [this]
  · have h3 : ((l.length : Int) != c / 8 + (c % 8 + 7) / 8) = true := bne_iff_ne.2 h2
    rw [h3, no (by omega)]
    simp only [impl_bitsOk.j0, if_true]

/-! the value that is read -/
def bitN (l : List Int) (p : Int) : Nat := (rd l (p / 8)).toNat / 2 ^ (p % 8).toNat % 2
def gW (l : List Int) (a : Int) : Nat → Nat
  | 0 => 0
  | m + 1 => gW l a m + bitN l (a + (m : Int)) * 2 ^ m
theorem gW_succ (l : List Int) (a : Int) (m : Nat) : gW l a (m + 1) = gW l a m + bitN l (a + (m : Int)) * 2 ^ m := rfl
theorem bitN_lt (l : List Int) (p : Int) : bitN l p < 2 := Nat.mod_lt _ (by omega)
theorem gW_lt (l : List Int) (a : Int) : ∀ m, gW l a m < 2 ^ m := by
  intro m
  induction m with
  | zero => exact Nat.one_pos
  | succ m ih =>
    have h := bitN_lt l (a + (m : Int))
    have : bitN l (a + (m : Int)) * 2 ^ m ≤ 1 * 2 ^ m := Nat.mul_le_mul_right _ (by omega)
    simp only [gW, Nat.pow_succ]
    omega
theorem rd_byte {l : List Int} (h : ∀ y ∈ l, 0 ≤ y ∧ y < 256) (i : Int) : 0 ≤ rd l i ∧ rd l i < 256 := by
  unfold rd
  rw [List.getD_eq_getElem?_getD]
  by_cases hi : i.toNat < l.length
  · rw [List.getElem?_eq_getElem hi]
    exact h _ (List.getElem_mem hi)
  · rw [List.getElem?_eq_none (by omega)]
    decide
theorem bit_step {x j : Int} (hx : 0 ≤ x ∧ x < 256) (hj : 0 ≤ j ∧ j < 8) {v i : Nat} (hv : v < 2 ^ i) (hi : i < 64) :
    Go.bits .or .u64 (v : Int) (shl .u64 (IntKind.u64.wrap (Go.bits .and .u8 (shr .u8 x j) 1)) (i : Int)) = ((v + x.toNat / 2 ^ j.toNat % 2 * 2 ^ i : Nat) : Int) := by
  have e1 : shr .u8 x j = ((x.toNat / 2 ^ j.toNat : Nat) : Int) := by
    unfold shr
    rw [Nat.min_eq_left (by simp [IntKind.bits]; omega)]
    obtain ⟨n, rfl⟩ := Int.eq_ofNat_of_zero_le hx.1
    simp
  have l1 : x.toNat / 2 ^ j.toNat < 256 := Nat.lt_of_le_of_lt (Nat.div_le_self _ _) (by omega)
  have hb : x.toNat / 2 ^ j.toNat % 2 < 2 := Nat.mod_lt _ (by omega)
  rw [e1, show (1 : Int) = ((1 : Nat) : Int) from rfl, u8_and_nat _ 1 l1 (by omega), show (x.toNat / 2 ^ j.toNat) &&& 1 = x.toNat / 2 ^ j.toNat % 2 from nat_mask1 _]
  generalize x.toNat / 2 ^ j.toNat % 2 = b at hb
  have p2 : (2 : Nat) ^ i * 2 ≤ 2 ^ 64 := by
    rw [← Nat.pow_succ]
    exact Nat.pow_le_pow_right (by omega) (by omega)
  have hm : b * 2 ^ i ≤ 1 * 2 ^ i := Nat.mul_le_mul_right _ (by omega)
  rw [IntKind.wrap_u64, Int.emod_eq_of_lt (by omega) (by omega)]
  have e2 : shl .u64 (b : Int) (i : Int) = ((b * 2 ^ i : Nat) : Int) := by
    unfold shl
    rw [Nat.min_eq_left (by simp [IntKind.bits]; omega), IntKind.wrap_u64]
    have : (b : Int) * 2 ^ ((i : Int)).toNat = ((b * 2 ^ i : Nat) : Int) := by simp
    rw [this, Int.emod_eq_of_lt (by omega) (by omega)]
  rw [e2, u64_or_nat v (b * 2 ^ i) (by omega) (by omega), Nat.or_comm, nat_join i (b * 2 ^ i) v (by simp) hv, Nat.add_comm]
/-- What reading answers. -/
def gbF (l : List Int) (c at_ n : Int) : Bool × Int × Int := if okB l c = true then (if n < 1 then (false, 0, 0) else if n > 64 then (false, 0, 0) else if at_ < 0 then (false, 0, 0) else if at_ > c then (false, 0, 0) else if n > wrap64 (c - at_) then (false, 0, 0) else (true, (gW l at_ n.toNat : Int), wrap64 (at_ + n))) else (false, 0, 0)
theorem idx_facts (at_ : Int) (i : Nat) (h0 : 0 ≤ at_) (h1 : at_ + i < 8388608) (h2 : i < 64) :
    wrap64 (at_ + i) = at_ + i ∧ Int.tdiv (at_ + i) 8 = (at_ + i) / 8 ∧ Int.tmod (at_ + i) 8 = (at_ + i) % 8 ∧ wrap64 ((at_ + i) / 8) = (at_ + i) / 8 ∧ wrap64 ((i : Int) + 1) = ((i + 1 : Nat) : Int) ∧ IntKind.u64.wrap ((at_ + i) % 8) = (at_ + i) % 8 ∧ IntKind.u64.wrap (i : Int) = i := by
  refine ⟨wrap64_id (by omega) (by omega), Int.tdiv_eq_ediv_of_nonneg (by omega), Int.tmod_eq_emod_of_nonneg (by omega), wrap64_id (by omega) (by omega), ?_, u64w (by omega) (by omega), u64w (by omega) (by omega)⟩
  unfold wrap64
  omega
theorem get_loops_v (l : List Int) (hB : ∀ y ∈ l, 0 ≤ y ∧ y < 256) (c at_ n : Int) (hl : (l.length : Int) = (c + 7) / 8) (hc : 0 ≤ c ∧ c ≤ 8388608) (ha : 0 ≤ at_) (hn : n ≤ 64) (hs : at_ + n ≤ c) :
    ∀ (d i : Nat), (i : Int) + d = n → Ev (fun k => spec_GetBits.l0 k at_ n (gW l at_ i) (i : Int) l c) (true, (gW l at_ n.toNat : Int), wrap64 (at_ + n)) ∧ Ev (fun k => impl_Bits_get.l0 k at_ (gW l at_ i) n (i : Int) l c) ((gW l at_ n.toNat : Int), c) := by
  intro d
  induction d with
  | zero =>
    intro i h
    have e : n.toNat = i := by omega
    rw [e]
    refine ⟨Ev.step (f := fun _ => some (true, (gW l at_ i : Int), wrap64 (at_ + n))) (fun k => ?_) (Ev.now _), Ev.step (f := fun _ => some ((gW l at_ i : Int), c)) (fun k => ?_) (Ev.now _)⟩
    · simp only [spec_GetBits.l0]
      rw [if_neg (by omega)]
    · simp only [impl_Bits_get.l0]
      rw [if_neg (by omega)]
  | succ d ih =>
    intro i h
    obtain ⟨e1, e2⟩ := ih (i + 1) (by omega)
    rw [gW_succ] at e1 e2
    simp only [bitN] at e1 e2
    have a8 := bit_step (rd_byte hB ((at_ + i) / 8)) (j := (at_ + i) % 8) (by omega) (gW_lt l at_ i) (show i < 64 by omega)
    have p1 : 0 ≤ (at_ + (i : Int)) / 8 := by omega
    have p2 : (at_ + (i : Int)) / 8 < (l.length : Int) := by omega
    have p3 : 0 ≤ (at_ + (i : Int)) % 8 := by omega
    have p4 : 0 ≤ (i : Int) := by omega
    have p5 : (i : Int) < n := by omega
    obtain ⟨a1, a2, a3, a4, a5, a6, a7⟩ := idx_facts at_ i ha (by omega) (by omega)
    refine ⟨Ev.step (fun k => ?_) e1, Ev.step (fun k => ?_) e2⟩
    · simp only [spec_GetBits.l0, a1, a2, a3, a4, a5, a6, a7, a8]
      rw [if_pos p5, if_pos p1, if_pos p2, if_pos p3, if_pos p4]
    · simp only [impl_Bits_get.l0, a1, a2, a3, a4, a5, a8]
      rw [if_pos p5, if_pos p1, if_pos p2, if_pos p3, if_pos p4]
theorem spec_get_at (l : List Int) (hB : ∀ y ∈ l, 0 ≤ y ∧ y < 256) (c at_ n : Int) (hl : l.length ≤ 1048576) (hc : -9223372036854775808 ≤ c ∧ c ≤ 9223372036854775807) :
    Ev (fun k => spec_GetBits.f k l c at_ n) (gbF l c at_ n) := by
  have bad : Ev (fun k => spec_GetBits.j0 k at_ n true l c) (false, 0, 0) := Ev.step (f := fun _ => some (false, 0, 0)) (fun k => by simp only [spec_GetBits.j0, if_true]) (Ev.now _)
  unfold spec_GetBits.f
  refine Ev.bind (a := okB l c) (Ev.step (fun k => spec_ok_at l c hl hc k) (Ev.now _)) ?_
  unfold gbF
  by_cases h0 : okB l c = true
  · simp only [if_pos h0]
    by_cases h1 : n < 1
    · simp only [if_pos h1]
      exact bad
    by_cases h2 : n > 64
    · simp only [if_neg h1, if_pos h2]
      exact bad
    by_cases h3 : at_ < 0
    · simp only [if_neg h1, if_neg h2, if_pos h3]
      exact bad
    by_cases h4 : at_ > c
    · simp only [if_neg h1, if_neg h2, if_neg h3, if_pos h4]
      exact bad
    obtain ⟨b1, b2, b3⟩ := okB_c h0
    by_cases h5 : n > wrap64 (c - at_)
    · simp only [if_neg h1, if_neg h2, if_neg h3, if_neg h4, if_pos h5, decide_eq_true h5]
      exact bad
    · simp only [if_neg h1, if_neg h2, if_neg h3, if_neg h4, if_neg h5, decide_eq_false h5]
      rw [wrap64_id (by omega) (by omega)] at h5
      refine Ev.step (fun k => ?_) (get_loops_v l hB c at_ n b3 ⟨b1, b2⟩ (by omega) (by omega) (by omega) n.toNat 0 (by omega)).1
      simp only [spec_GetBits.j0, Bool.false_eq_true, if_false]
      rfl
  · simp only [if_neg h0]
    exact bad
theorem impl_get_at (l : List Int) (hB : ∀ y ∈ l, 0 ≤ y ∧ y < 256) (c at_ n : Int) (hl : l.length ≤ 1048576) (hc : -9223372036854775808 ≤ c ∧ c ≤ 9223372036854775807) :
    Ev (fun k => impl_GetBits.f k l c at_ n) (gbF l c at_ n) := by
  unfold impl_GetBits.f
  refine Ev.bind (a := okB l c) (Ev.step (fun k => impl_ok_at l c hl hc k) (Ev.now _)) ?_
  unfold gbF
  by_cases h0 : okB l c = true
  · simp only [if_pos h0]
    by_cases h1 : n < 1
    · simp only [if_pos h1]
      exact Ev.now _
    by_cases h2 : n > 64
    · simp only [if_neg h1, if_pos h2]
      exact Ev.now _
    by_cases h3 : at_ < 0
    · simp only [if_neg h1, if_neg h2, if_pos h3]
      exact Ev.now _
    by_cases h4 : at_ > c
    · simp only [if_neg h1, if_neg h2, if_neg h3, if_pos h4]
      exact Ev.now _
    obtain ⟨b1, b2, b3⟩ := okB_c h0
    by_cases h5 : n > wrap64 (c - at_)
    · simp only [if_neg h1, if_neg h2, if_neg h3, if_neg h4, if_pos h5]
      exact Ev.now _
    · simp only [if_neg h1, if_neg h2, if_neg h3, if_neg h4, if_neg h5]
      rw [wrap64_id (by omega) (by omega)] at h5
      refine Ev.bind (a := ((gW l at_ n.toNat : Int), c)) ?_ (Ev.now _)
      unfold impl_Bits_get.f
      exact (get_loops_v l hB c at_ n b3 ⟨b1, b2⟩ (by omega) (by omega) (by omega) n.toNat 0 (by omega)).2
  · simp only [if_neg h0]
    exact Ev.now _
/-- A piece and the bit behind it, against both at once. -/
theorem gb_split (l : List Int) (c at_ n : Int) (hn : 2 ≤ n ∧ n ≤ 32) (ha : -9223372036854775808 ≤ at_ ∧ at_ ≤ 9223372036854775807) :
    ((gbF l c at_ (wrap64 (n - 1))).1 = true ∧ (gbF l c (wrap64 ((wrap64 (at_ + n)) - 1)) 1).1 = true ∧ 0 ≤ at_ ∧ at_ + n ≤ c ∧ c ≤ 8388608 ∧ gbF l c at_ (wrap64 (n - 1)) = (true, (gW l at_ (n.toNat - 1) : Int), at_ + n - 1) ∧ gbF l c (wrap64 ((wrap64 (at_ + n)) - 1)) 1 = (true, (bitN l (at_ + n - 1) : Int), at_ + n) ∧ gbF l c at_ n = (true, (gW l at_ (n.toNat - 1) : Int) + (bitN l (at_ + n - 1) : Int) * 2 ^ (n.toNat - 1), at_ + n))
    ∨ (((gbF l c at_ (wrap64 (n - 1))).1 = false ∨ (gbF l c (wrap64 ((wrap64 (at_ + n)) - 1)) 1).1 = false) ∧ gbF l c at_ n = (false, 0, 0)) := by
  have e1 : wrap64 (n - 1) = n - 1 := wrap64_id (by omega) (by omega)
  rw [e1]
  by_cases h0 : okB l c = true
  · obtain ⟨b1, b2, b3⟩ := okB_c h0
    by_cases h1 : 0 ≤ at_ ∧ at_ + n ≤ c
    · left
      have e2 : wrap64 ((wrap64 (at_ + n)) - 1) = at_ + n - 1 := by rw [wrap64_id (x := at_ + n) (by omega) (by omega), wrap64_id (by omega) (by omega)]
      rw [e2]
      have g1 : gbF l c at_ (n - 1) = (true, (gW l at_ (n.toNat - 1) : Int), at_ + n - 1) := by
        unfold gbF
        rw [if_pos h0, if_neg (by omega), if_neg (by omega), if_neg (by omega), if_neg (by omega), wrap64_id (x := c - at_) (by omega) (by omega), if_neg (by omega), wrap64_id (by omega) (by omega), show (n - 1).toNat = n.toNat - 1 by omega, show at_ + (n - 1) = at_ + n - 1 by omega]
      have g2 : gbF l c (at_ + n - 1) 1 = (true, (bitN l (at_ + n - 1) : Int), at_ + n) := by
        unfold gbF
        rw [if_pos h0, if_neg (by omega), if_neg (by omega), if_neg (by omega), if_neg (by omega), wrap64_id (x := c - (at_ + n - 1)) (by omega) (by omega), if_neg (by omega), wrap64_id (by omega) (by omega), show at_ + n - 1 + 1 = at_ + n by omega]
        simp [gW]
      have g3 : gbF l c at_ n = (true, (gW l at_ (n.toNat - 1) : Int) + (bitN l (at_ + n - 1) : Int) * 2 ^ (n.toNat - 1), at_ + n) := by
        unfold gbF
        rw [if_pos h0, if_neg (by omega), if_neg (by omega), if_neg (by omega), if_neg (by omega), wrap64_id (x := c - at_) (by omega) (by omega), if_neg (by omega), wrap64_id (by omega) (by omega)]
        obtain ⟨m, hm⟩ : ∃ m : Nat, n = (m : Int) + 1 := ⟨(n - 1).toNat, by omega⟩
        subst hm
        rw [show ((m : Int) + 1).toNat = m + 1 by omega, show at_ + ((m : Int) + 1) - 1 = at_ + m by omega]
        simp [gW]
      exact ⟨by rw [g1], by rw [g2], h1.1, h1.2, b2, g1, g2, g3⟩
    · right
      have g3 : gbF l c at_ n = (false, 0, 0) := by
        unfold gbF
        rw [if_pos h0, if_neg (by omega), if_neg (by omega)]
        by_cases h2 : at_ < 0
        · rw [if_pos h2]
        by_cases h3 : at_ > c
        · rw [if_neg h2, if_pos h3]
        rw [if_neg h2, if_neg h3, wrap64_id (x := c - at_) (by omega) (by omega), if_pos (by omega)]
      refine ⟨?_, g3⟩
      by_cases h2 : at_ < 0
      · left
        unfold gbF
        rw [if_pos h0, if_neg (by omega), if_neg (by omega), if_pos h2]
      by_cases h3 : at_ > c
      · left
        unfold gbF
        rw [if_pos h0, if_neg (by omega), if_neg (by omega), if_neg h2, if_pos h3]
      have e2 : wrap64 ((wrap64 (at_ + n)) - 1) = at_ + n - 1 := by rw [wrap64_id (x := at_ + n) (by omega) (by omega), wrap64_id (by omega) (by omega)]
      rw [e2]
      by_cases h4 : n - 1 > c - at_
      · left
        unfold gbF
        rw [if_pos h0, if_neg (by omega), if_neg (by omega), if_neg h2, if_neg h3, wrap64_id (x := c - at_) (by omega) (by omega), if_pos h4]
      · right
        unfold gbF
        rw [if_pos h0, if_neg (by omega), if_neg (by omega), if_neg (by omega), if_neg (by omega), wrap64_id (x := c - (at_ + n - 1)) (by omega) (by omega), if_pos (by omega)]
  · right
    unfold gbF
    simp only [if_neg h0]
    exact ⟨Or.inl trivial, trivial⟩

/-! numbers of varying length: both readings -/
def vv (v P s : Int) : Int := if s < 64 then Go.bits .or .u64 v (shl .u64 P s) else v
def vbad (P b s : Int) : Prop := (P ≠ 0 ∧ (s ≥ 64 ∨ shr .u64 (shl .u64 P s) s ≠ P)) ∨ (s > 0 ∧ P = 0 ∧ b = 0)
instance (P b s : Int) : Decidable (vbad P b s) := by
  unfold vbad
  exact inferInstance
theorem spec_j2_at (l : List Int) (c n v s P x b at' : Int) (hn : 2 ≤ n ∧ n ≤ 32) (hs : 0 ≤ s ∧ s ≤ 300) (k : Nat) :
    spec_GetVar.j2 (k + 3) n v s false l c true P x true b at' = if vbad P b s then some (false, 0, 0) else if b = 0 then some (true, vv v P s, at') else if s ≥ 64 then some (false, 0, 0) else spec_GetVar.l0 k at' n (vv v P s) (s + n - 1) l c := by
  have w : IntKind.u64.wrap s = s := u64w (by omega) (by omega)
  have w2 : wrap64 (wrap64 (s + n) - 1) = s + n - 1 := by rw [wrap64_id (x := s + n) (by omega) (by omega), wrap64_id (by omega) (by omega)]
  simp only [spec_GetVar.j2, spec_GetVar.j3, spec_GetVar.j4, w, w2, vbad, vv, Bool.false_eq_true, if_false]
  by_cases hP : P = 0 <;> by_cases hb : b = 0 <;> by_cases h64 : s ≥ 64 <;> by_cases h0 : s > 0 <;> by_cases ht : shr .u64 (shl .u64 P s) s = P
  all_goals first
    | (exfalso; omega)
    | (have h65 : ¬ s < 64 := by omega
       have h1 : 0 ≤ s := by omega
       simp [hP, hb, h64, h65, h0, h1, ht])
    | (have h65 : s < 64 := by omega
       have h1 : 0 ≤ s := by omega
       simp [hP, hb, h64, h65, h0, h1, ht])
    | (have h65 : s < 64 := by omega
       have h1 : 0 ≤ s := by omega
       subst hP
       simp [hb, h64, h65, h0, h1, ht])
theorem impl_j2_at (l : List Int) (c n v s P at' : Int) (m t : Bool) (hn : 2 ≤ n ∧ n ≤ 32) (hs : 0 ≤ s ∧ s ≤ 300) (k : Nat) :
    impl_GetVar.j2 (k + 3) at' n v s P m t l c = if t = true ∨ (P ≠ 0 ∧ (s ≥ 64 ∨ shr .u64 (shl .u64 P s) s ≠ P)) then some (false, 0, 0) else if m = false then some (true, vv v P s, at') else if s + n - 1 > 200 then some (false, 0, 0) else impl_GetVar.l0 k at' n (vv v P s) (s + n - 1) false l c := by
  have w2 : wrap64 (s + wrap64 (n - 1)) = s + n - 1 := by rw [wrap64_id (x := n - 1) (by omega) (by omega), wrap64_id (by omega) (by omega)]; omega
  simp only [impl_GetVar.j2, impl_GetVar.j3, impl_GetVar.j4, w2, vv]
  have h1 : 0 ≤ s := by omega
  cases t
  · by_cases hP : P = 0 <;> by_cases h64 : s ≥ 64 <;> by_cases ht : shr .u64 (shl .u64 P s) s = P <;> cases m
    all_goals first
      | (have h65 : ¬ s < 64 := by omega
         simp [hP, h64, h65, h1, ht])
      | (have h65 : s < 64 := by omega
         simp [hP, h64, h65, h1, ht])
      | (have h65 : ¬ s < 64 := by omega
         subst hP
         simp [h64, h65, h1, ht])
      | (have h65 : s < 64 := by omega
         subst hP
         simp [h64, h65, h1, ht])
  · simp
theorem and_low {P b m : Nat} (hP : P < 2 ^ m) (hb : b < 2) (hm : m < 63) : Go.bits .and .u64 ((P : Int) + (b : Int) * 2 ^ m) (IntKind.u64.wrap (shl .u64 1 (m : Int) - 1)) = (P : Int) := by
  have p2 : (2 : Nat) ^ m * 4 ≤ 2 ^ 64 := by
    rw [show (4 : Nat) = 2 ^ 2 from rfl, ← Nat.pow_add]
    exact Nat.pow_le_pow_right (by omega) (by omega)
  have p1 : 0 < (2 : Nat) ^ m := Nat.pow_pos (by omega)
  have hbm : b * 2 ^ m ≤ 1 * 2 ^ m := Nat.mul_le_mul_right _ (by omega)
  have e1 : shl .u64 1 (m : Int) = ((2 ^ m : Nat) : Int) := by
    unfold shl
    rw [Nat.min_eq_left (by simp [IntKind.bits]; omega), IntKind.wrap_u64]
    have : (1 : Int) * 2 ^ ((m : Int)).toNat = ((2 ^ m : Nat) : Int) := by simp
    rw [this, Int.emod_eq_of_lt (by omega) (by omega)]
  have e2 : (P : Int) + (b : Int) * 2 ^ m = ((P + b * 2 ^ m : Nat) : Int) := by simp
  have e3 : ((2 ^ m : Nat) : Int) - 1 = ((2 ^ m - 1 : Nat) : Int) := by omega
  rw [e1, e2, e3, IntKind.wrap_u64, Int.emod_eq_of_lt (by omega) (by omega), u64_and_nat _ _ (by omega) (by omega), Nat.and_two_pow_sub_one_eq_mod, Nat.add_mul_mod_self_right, Nat.mod_eq_of_lt hP]
theorem shr_high {P b m : Nat} (hP : P < 2 ^ m) (hm : m < 63) : shr .u64 ((P : Int) + (b : Int) * 2 ^ m) (m : Int) = (b : Int) := by
  have p1 : 0 < (2 : Nat) ^ m := Nat.pow_pos (by omega)
  unfold shr
  rw [Nat.min_eq_left (by simp [IntKind.bits]; omega)]
  have e2 : (P : Int) + (b : Int) * 2 ^ m = ((P + b * 2 ^ m : Nat) : Int) := by simp
  have e3 : (2 : Int) ^ ((m : Int)).toNat = ((2 ^ m : Nat) : Int) := by simp
  rw [e2, e3, ← Int.natCast_ediv, Nat.add_mul_div_right _ _ p1, Nat.div_eq_of_lt hP, Nat.zero_add]
section
variable (l : List Int) (hB : ∀ y ∈ l, 0 ≤ y ∧ y < 256) (c n : Int) (hl : l.length ≤ 1048576) (hc : -9223372036854775808 ≤ c ∧ c ≤ 9223372036854775807) (hn : 2 ≤ n ∧ n ≤ 32)
include hB hl hc hn
/-- One round of the program, at a place where a piece can be read. -/
theorem impl_round (at_ v s : Int) (f : Bool) (hs : 0 ≤ s ∧ s ≤ 300) (P b : Nat) (hP : P < 2 ^ (n.toNat - 1)) (hb : b < 2) (g : gbF l c at_ n = (true, (P : Int) + (b : Int) * 2 ^ (n.toNat - 1), at_ + n)) (r : Bool × Int × Int)
    (h : Ev (fun k => if (b = 0 ∧ P = 0 ∧ f = false) ∨ ((P : Int) ≠ 0 ∧ (s ≥ 64 ∨ shr .u64 (shl .u64 (P : Int) s) s ≠ (P : Int))) then some (false, 0, 0) else if b = 0 then some (true, vv v P s, at_ + n) else if s + n - 1 > 200 then some (false, 0, 0) else impl_GetVar.l0 k (at_ + n) n (vv v P s) (s + n - 1) false l c) r) :
    Ev (fun k => impl_GetVar.l0 k at_ n v s f l c) r := by
  have e1 : wrap64 (n - 1) = ((n.toNat - 1 : Nat) : Int) := by rw [wrap64_id (by omega) (by omega)]; omega
  have al := and_low hP hb (show n.toNat - 1 < 63 by omega)
  have sh := shr_high (b := b) hP (show n.toNat - 1 < 63 by omega)
  refine Ev.step (f := fun k => (impl_GetBits.f k l c at_ n).bind fun t => (if t.1 = true then (if 0 ≤ (wrap64 (n - 1)) then (if (shr .u64 t.2.1 (wrap64 (n - 1))) = 1 then (impl_GetVar.j2 k t.2.2 n v s (Go.bits .and .u64 t.2.1 (IntKind.u64.wrap ((shl .u64 1 (wrap64 (n - 1))) - 1))) ((shr .u64 t.2.1 (wrap64 (n - 1))) == 1) false l c) else (if (Go.bits .and .u64 t.2.1 (IntKind.u64.wrap ((shl .u64 1 (wrap64 (n - 1))) - 1))) = 0 then (impl_GetVar.j2 k t.2.2 n v s (Go.bits .and .u64 t.2.1 (IntKind.u64.wrap ((shl .u64 1 (wrap64 (n - 1))) - 1))) ((shr .u64 t.2.1 (wrap64 (n - 1))) == 1) (!f) l c) else (impl_GetVar.j2 k t.2.2 n v s (Go.bits .and .u64 t.2.1 (IntKind.u64.wrap ((shl .u64 1 (wrap64 (n - 1))) - 1))) ((shr .u64 t.2.1 (wrap64 (n - 1))) == 1) false l c))) else (none)) else (some (false, 0, 0)))) (fun k => by simp only [impl_GetVar.l0]) ?_
  refine Ev.bind (impl_get_at l hB c at_ n hl hc) ?_
  rw [g]
  simp only [if_true, e1, al, sh]
  have j : ∀ (m t : Bool), Ev (fun k => if t = true ∨ ((P : Int) ≠ 0 ∧ (s ≥ 64 ∨ shr .u64 (shl .u64 (P : Int) s) s ≠ (P : Int))) then some (false, 0, 0) else if m = false then some (true, vv v P s, at_ + n) else if s + n - 1 > 200 then some (false, 0, 0) else impl_GetVar.l0 k (at_ + n) n (vv v P s) (s + n - 1) false l c) r → Ev (fun k => impl_GetVar.j2 k (at_ + n) n v s P m t l c) r := by
    intro m t h
    obtain ⟨k0, h⟩ := h
    refine ⟨k0 + 3, fun k hk => ?_⟩
    obtain ⟨q, rfl⟩ : ∃ q, k = q + 3 := ⟨k - 3, by omega⟩
    have := h q (by omega)
    simp only at this ⊢
    rw [impl_j2_at l c n v s P (at_ + n) m t hn hs q]
    exact this
  simp only [show (0 : Int) ≤ ((n.toNat - 1 : Nat) : Int) by omega, if_true]
  rcases (show b = 0 ∨ b = 1 by omega) with rfl | rfl
  · simp only [show ¬ (((0 : Nat) : Int) = 1) by omega, if_false, show ((((0 : Nat) : Int) == 1)) = false from rfl]
    by_cases h0 : P = 0
    · subst h0
      simp only [Int.natCast_zero, if_true]
      refine j _ _ ?_
      simpa using h
    · simp only [show ¬ ((P : Int) = 0) by omega, if_false]
      refine j _ _ ?_
      simpa [h0] using h
  · simp only [show (((1 : Nat) : Int) = 1) by omega, if_true, show ((((1 : Nat) : Int) == 1)) = true from rfl]
    refine j _ _ ?_
    simpa using h
theorem impl_fail (at_ v s : Int) (f : Bool) (g : gbF l c at_ n = (false, 0, 0)) : Ev (fun k => impl_GetVar.l0 k at_ n v s f l c) (false, 0, 0) := by
  refine Ev.step (f := fun k => (impl_GetBits.f k l c at_ n).bind fun t => (if t.1 = true then (if 0 ≤ (wrap64 (n - 1)) then (if (shr .u64 t.2.1 (wrap64 (n - 1))) = 1 then (impl_GetVar.j2 k t.2.2 n v s (Go.bits .and .u64 t.2.1 (IntKind.u64.wrap ((shl .u64 1 (wrap64 (n - 1))) - 1))) ((shr .u64 t.2.1 (wrap64 (n - 1))) == 1) false l c) else (if (Go.bits .and .u64 t.2.1 (IntKind.u64.wrap ((shl .u64 1 (wrap64 (n - 1))) - 1))) = 0 then (impl_GetVar.j2 k t.2.2 n v s (Go.bits .and .u64 t.2.1 (IntKind.u64.wrap ((shl .u64 1 (wrap64 (n - 1))) - 1))) ((shr .u64 t.2.1 (wrap64 (n - 1))) == 1) (!f) l c) else (impl_GetVar.j2 k t.2.2 n v s (Go.bits .and .u64 t.2.1 (IntKind.u64.wrap ((shl .u64 1 (wrap64 (n - 1))) - 1))) ((shr .u64 t.2.1 (wrap64 (n - 1))) == 1) false l c))) else (none)) else (some (false, 0, 0)))) (fun k => by simp only [impl_GetVar.l0]) ?_
  refine Ev.bind (impl_get_at l hB c at_ n hl hc) ?_
  rw [g]
  exact Ev.now _
/-- Past 64 places the program never answers. -/
theorem impl_far : ∀ (d : Nat) (at_ v s : Int), (-9223372036854775808 ≤ at_ ∧ at_ ≤ 9223372036854775807) → 64 ≤ s → s ≤ 200 → s + d ≥ 201 → Ev (fun k => impl_GetVar.l0 k at_ n v s false l c) (false, 0, 0) := by
  intro d
  induction d with
  | zero => intro at_ v s _ h1 h2 h3; omega
  | succ d ih =>
    intro at_ v s ha h1 h2 h3
    rcases gb_split l c at_ n hn ha with ⟨_, _, a0, a1, a2, g1, g2, g3⟩ | ⟨_, g⟩
    · refine impl_round l hB c n hl hc hn at_ v s false (by omega) _ _ (gW_lt l at_ _) (bitN_lt l _) g3 _ ?_
      by_cases h5 : gW l at_ (n.toNat - 1) = 0
      · by_cases h6 : bitN l (at_ + n - 1) = 0
        · refine Ev.congr (f := fun _ => some (false, 0, 0)) (fun k => ?_) (Ev.now _)
          rw [if_pos (Or.inl ⟨h6, h5, rfl⟩)]
        · by_cases h7 : s + n - 1 > 200
          · refine Ev.congr (f := fun _ => some (false, 0, 0)) (fun k => ?_) (Ev.now _)
            rw [if_neg (by rintro (⟨h, _⟩ | ⟨h, _⟩); exact h6 h; exact h (by omega)), if_neg h6, if_pos h7]
          · refine Ev.congr (fun k => ?_) (ih (at_ + n) (vv v (gW l at_ (n.toNat - 1) : Int) s) (s + n - 1) (by omega) (by omega) (by omega) (by omega))
            rw [if_neg (by rintro (⟨h, _⟩ | ⟨h, _⟩); exact h6 h; exact h (by omega)), if_neg h6, if_neg h7]
      · refine Ev.congr (f := fun _ => some (false, 0, 0)) (fun k => ?_) (Ev.now _)
        rw [if_pos (Or.inr ⟨by omega, Or.inl (by omega)⟩)]
    · exact impl_fail l hB c n hl hc hn at_ v s false g
/-- Both readings agree, from whatever state. -/
theorem var_loops : ∀ (d : Nat) (at_ v s : Int), (-9223372036854775808 ≤ at_ ∧ at_ ≤ 9223372036854775807) → 0 ≤ s → s ≤ 100 → s + d ≥ 101 →
    ∃ r, Ev (fun k => spec_GetVar.l0 k at_ n v s l c) r ∧ Ev (fun k => impl_GetVar.l0 k at_ n v s (decide (s = 0)) l c) r := by
  intro d
  induction d with
  | zero => intro at_ v s _ h1 h2 h3; omega
  | succ d ih =>
    intro at_ v s ha h1 h2 h3
    have sg := fun (at_ n : Int) => spec_get_at l hB c at_ n hl hc
    rcases gb_split l c at_ n hn ha with ⟨_, _, a0, a1, a2, g1, g2, g3⟩ | ⟨g, g3⟩
    · -- both read
      have sr : ∀ r, Ev (fun k => if vbad (gW l at_ (n.toNat - 1) : Int) (bitN l (at_ + n - 1) : Int) s then some (false, 0, 0) else if (bitN l (at_ + n - 1) : Int) = 0 then some (true, vv v (gW l at_ (n.toNat - 1) : Int) s, at_ + n) else if s ≥ 64 then some (false, 0, 0) else spec_GetVar.l0 k (at_ + n) n (vv v (gW l at_ (n.toNat - 1) : Int) s) (s + n - 1) l c) r → Ev (fun k => spec_GetVar.l0 k at_ n v s l c) r := by
        intro r h
        refine Ev.step (fun k => by simp only [spec_GetVar.l0]; rfl) (Ev.bind (sg at_ (wrap64 (n - 1))) (Ev.bind (sg (wrap64 ((wrap64 (at_ + n)) - 1)) 1) ?_))
        rw [g1, g2]
        simp only [if_true, Bool.not_true]
        obtain ⟨k0, h⟩ := h
        refine ⟨k0 + 3, fun k hk => ?_⟩
        obtain ⟨q, rfl⟩ : ∃ q, k = q + 3 := ⟨k - 3, by omega⟩
        have := h q (by omega)
        simp only at this ⊢
        rw [spec_j2_at l c n v s _ _ _ _ hn (by omega) q]
        exact this
      have ir := fun r => impl_round l hB c n hl hc hn at_ v s (decide (s = 0)) (by omega) _ _ (gW_lt l at_ _) (bitN_lt l _) g3 r
      generalize gW l at_ (n.toNat - 1) = P at sr ir
      generalize bitN l (at_ + n - 1) = b at sr ir
      by_cases hb : vbad (P : Int) (b : Int) s
      · refine ⟨(false, 0, 0), sr _ (Ev.congr (f := fun _ => some (false, 0, 0)) (fun k => by rw [if_pos hb]) (Ev.now _)), ir _ (Ev.congr (f := fun _ => some (false, 0, 0)) (fun k => ?_) (Ev.now _))⟩
        rw [if_pos]
        rcases hb with hb | ⟨q1, q2, q3⟩
        · exact Or.inr hb
        · exact Or.inl ⟨by omega, by omega, decide_eq_false (by omega)⟩
      · have nb : ¬ ((b = 0 ∧ P = 0 ∧ decide (s = 0) = false) ∨ ((P : Int) ≠ 0 ∧ (s ≥ 64 ∨ shr .u64 (shl .u64 (P : Int) s) s ≠ (P : Int)))) := by
          rintro (⟨q1, q2, q3⟩ | q)
          · exact hb (Or.inr ⟨by have := of_decide_eq_false q3; omega, by omega, by omega⟩)
          · exact hb (Or.inl q)
        by_cases h0 : b = 0
        · refine ⟨(true, vv v P s, at_ + n), sr _ (Ev.congr (f := fun _ => some (true, vv v P s, at_ + n)) (fun k => by rw [if_neg hb, if_pos (by omega)]) (Ev.now _)), ir _ (Ev.congr (f := fun _ => some (true, vv v P s, at_ + n)) (fun k => by rw [if_neg nb, if_pos h0]) (Ev.now _))⟩
        by_cases h64 : s ≥ 64
        · refine ⟨(false, 0, 0), sr _ (Ev.congr (f := fun _ => some (false, 0, 0)) (fun k => by rw [if_neg hb, if_neg (by omega), if_pos h64]) (Ev.now _)), ir _ ?_⟩
          refine Ev.congr (fun k => by rw [if_neg nb, if_neg h0, if_neg (by omega)]) (impl_far l hB c n hl hc hn 200 (at_ + n) (vv v P s) (s + n - 1) (by omega) (by omega) (by omega) (by omega))
        · obtain ⟨r, e1, e2⟩ := ih (at_ + n) (vv v P s) (s + n - 1) (by omega) (by omega) (by omega) (by omega)
          rw [decide_eq_false (show ¬ (s + n - 1 = 0) by omega)] at e2
          exact ⟨r, sr _ (Ev.congr (fun k => by rw [if_neg hb, if_neg (by omega), if_neg h64]) e1), ir _ (Ev.congr (fun k => by rw [if_neg nb, if_neg h0, if_neg (by omega)]) e2)⟩
    · refine ⟨(false, 0, 0), ?_, impl_fail l hB c n hl hc hn at_ v s _ g3⟩
      refine Ev.step (fun k => by simp only [spec_GetVar.l0]; rfl) (Ev.bind (sg at_ (wrap64 (n - 1))) (Ev.bind (sg (wrap64 ((wrap64 (at_ + n)) - 1)) 1) ?_))
      have jt : ∀ x0 x1 x2 x3 x4 x5, Ev (fun k => spec_GetVar.j2 k n v s true l c x0 x1 x2 x3 x4 x5) (false, 0, 0) := fun x0 x1 x2 x3 x4 x5 => Ev.step (f := fun _ => some (false, 0, 0)) (fun k => by simp only [spec_GetVar.j2, if_true]) (Ev.now _)
      by_cases q : (gbF l c at_ (wrap64 (n - 1))).1 = true
      · have q2 : (gbF l c (wrap64 ((wrap64 (at_ + n)) - 1)) 1).1 = false := by
          rcases g with g | g
          · rw [g] at q
            exact absurd q (by decide)
          · exact g
        simp only [if_pos q, q2, Bool.not_false]
        exact jt _ _ _ _ _ _
      · simp only [if_neg q]
        exact jt _ _ _ _ _ _
end
theorem var_ev (l : List Int) (hB : ∀ y ∈ l, 0 ≤ y ∧ y < 256) (c at_ n : Int) (hl : l.length ≤ 1048576) (hc : -9223372036854775808 ≤ c ∧ c ≤ 9223372036854775807) (ha : -9223372036854775808 ≤ at_ ∧ at_ ≤ 9223372036854775807) :
    ∃ r, Ev (fun k => spec_GetVar.f k l c at_ n) r ∧ Ev (fun k => impl_GetVar.f k l c at_ n) r := by
  have sb : Ev (fun k => spec_GetVar.j0 k at_ n true l c) (false, 0, 0) := Ev.step (f := fun _ => some (false, 0, 0)) (fun k => by simp only [spec_GetVar.j0, if_true]) (Ev.now _)
  have ib : Ev (fun k => impl_GetVar.j0 k at_ n true l c) (false, 0, 0) := Ev.step (f := fun _ => some (false, 0, 0)) (fun k => by simp only [impl_GetVar.j0, if_true]) (Ev.now _)
  by_cases h1 : n < 2
  · refine ⟨(false, 0, 0), ?_, ?_⟩
    · unfold spec_GetVar.f
      simp only [if_pos h1]
      exact sb
    · unfold impl_GetVar.f
      simp only [if_pos h1]
      exact ib
  by_cases h2 : n > 32
  · refine ⟨(false, 0, 0), ?_, ?_⟩
    · unfold spec_GetVar.f
      simp only [if_neg h1, decide_eq_true h2]
      exact sb
    · unfold impl_GetVar.f
      simp only [if_neg h1, decide_eq_true h2]
      exact ib
  obtain ⟨r, e1, e2⟩ := var_loops l hB c n hl hc (by omega) 101 at_ 0 0 ha (by omega) (by omega) (by omega)
  refine ⟨r, ?_, ?_⟩
  · unfold spec_GetVar.f
    simp only [if_neg h1, decide_eq_false h2]
    exact Ev.step (fun k => by simp only [spec_GetVar.j0, Bool.false_eq_true, if_false]) e1
  · unfold impl_GetVar.f
    simp only [if_neg h1, decide_eq_false h2]
    exact Ev.step (fun k => by simp only [impl_GetVar.j0, Bool.false_eq_true, if_false]; rfl) e2

theorem FnExactGetVar : laws_FnExactGetVar.Pure := by
  intro l c at_ n hl hc ha hn
  have i64 : ∀ {x : Int}, (Lit.int .i64 x).wf = true → -9223372036854775808 ≤ x ∧ x ≤ 9223372036854775807 := by
    intro x h
    simp [Lit.wf, IntKind.min, IntKind.max, IntKind.signed, IntKind.bits] at h
    omega
  obtain ⟨hl, hy⟩ := hl
  simp only [maxLen] at hl
  unfold laws_FnExactGetVar.f laws_szBits.f
  rw [laws_szByteS_at l 1048576 hl (by omega) (by omega)]
  simp only [Option.bind_some]
  by_cases h : 1048576 - (l.length : Int) < 0
  · refine ⟨0, ?_⟩
    simp only [if_pos h]
    rfl
  simp only [if_neg h]
  simp only [Option.bind_some, if_neg h]
  have hB : ∀ y ∈ l, 0 ≤ y ∧ y < 256 := by
    intro y h
    have := hy y h
    simp [Lit.wf, IntKind.min, IntKind.max, IntKind.signed, IntKind.bits] at this
    omega
  obtain ⟨r, e1, e2⟩ := var_ev l hB c at_ n (by omega) (i64 hc) (i64 ha)
  have tf : Ev (fun k => laws_toBits.f k l c) (l, c) := by
    unfold laws_toBits.f
    exact Ev.bind (laws_toByteS_ev l (by omega)) (Ev.now _)
  refine Ev.rounds (Ev.bind tf (Ev.bind e1 (Ev.bind tf (Ev.bind e2 ?_))))
  have er : laws_eqBitResult.f r.1 r.2.1 r.2.2 r.1 r.2.1 r.2.2 = some true := by
    simp [laws_eqBitResult.f]
  rw [er]
  simp only [Option.bind_some, if_true]
  refine Ev.bind tf (Ev.bind (a := true) ?_ (Ev.now true))
  unfold laws_eqBits.f
  simp only [if_true]
  exact Ev.bind (laws_eqByteS_ev l (by omega)) (Ev.now true)

end Go.Proofs.Ytcjdgimiobhhnaa.Pure
