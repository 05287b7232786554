/- FnExactPutVar's plain law: for every argument both functions put the same pieces behind the same bits; conditions: none but the bounds that the row gives. -/
import Derived.Test.YtcjdgimiobhhnaaOpenFnExactPutVar
import Derived.Test.YtcjdgimiobhhnaaPlGen
import Derived.Laws.BitsAllLaws
import Derived.Laws.Bits64
namespace Go.Proofs.Ytcjdgimiobhhnaa.Pure
open Go.RowKit Go.Proofs.Ytcjdgimiobhhnaa.QFnExactPutVar Go.Proofs.Ytcjdgimiobhhnaa.OpenFnExactPutVar Go.Proofs.YtcjdgimiobhhnaaW.PrintWords Go.Proofs.YtcjdgimiobhhnaaW.PrintLast Go.Proofs.YtcjdgimiobhhnaaW.PrintMore Go.Proofs.Ytcjdgimiobhhnaa.RowOpen Go.Proofs.Ytcjdgimiobhhnaa.PlGen
set_option linter.unusedSimpArgs false
set_option linter.unusedVariables false
set_option linter.unusedSectionVars false
set_option maxHeartbeats 4000000

/-! bits: which are well formed, and reading them -/
theorem u64w {n : Int} (h0 : 0 ≤ n) (h1 : n ≤ 9223372036854775807) : IntKind.u64.wrap n = n := by
  rw [show IntKind.u64.wrap n = n % 18446744073709551616 by simp [IntKind.wrap, IntKind.bits, IntKind.signed]]
  omega
/-- The bytes and the count belong together. -/
def okB (l : List Int) (c : Int) : Bool := decide (0 ≤ c ∧ c ≤ 8388608 ∧ (l.length : Int) = (c + 7) / 8 ∧ (c % 8 = 0 ∨ shr .u8 (rd l ((l.length : Int) - 1)) (c % 8) = 0))
theorem okB_c {l : List Int} {c : Int} (h : okB l c = true) : 0 ≤ c ∧ c ≤ 8388608 ∧ (l.length : Int) = (c + 7) / 8 := by
  simp only [okB, decide_eq_true_eq] at h
  omega
theorem tdiv_far {c : Int} (h0 : 9223372036854775800 < c) (h1 : c ≤ 9223372036854775807) : wrap64 (Int.tdiv (wrap64 (c + 7)) 8) < 0 := by
  have e : wrap64 (c + 7) = -(18446744073709551616 - (c + 7)) := by
    unfold wrap64
    omega
  rw [e, Int.neg_tdiv, Int.tdiv_eq_ediv_of_nonneg (by omega)]
  unfold wrap64
  omega
theorem tdiv_near {c : Int} (h0 : 0 ≤ c) (h1 : c ≤ 9223372036854775800) : wrap64 (Int.tdiv (wrap64 (c + 7)) 8) = (c + 7) / 8 := by
  rw [wrap64_id (x := c + 7) (by omega) (by omega), Int.tdiv_eq_ediv_of_nonneg (by omega), wrap64_id (by omega) (by omega)]

theorem spec_ok_at (l : List Int) (c : Int) (hl : l.length ≤ 1048576) (hc : -9223372036854775808 ≤ c ∧ c ≤ 9223372036854775807) (k : Nat) : spec_l6Ok.f (k + 1) l c = some (okB l c) := by
  have no : ¬ (0 ≤ c ∧ c ≤ 8388608 ∧ (l.length : Int) = (c + 7) / 8) → okB l c = false := by
    intro h
    simp only [okB, decide_eq_false_iff_not]
    omega
  unfold spec_l6Ok.f
  by_cases h1 : c < 0
  · rw [if_pos h1, no (by omega)]
    simp only [spec_l6Ok.j0, if_true]
  rw [if_neg h1]
  by_cases h2 : (l.length : Int) = wrap64 (Int.tdiv (wrap64 (c + 7)) 8)
  · rw [if_pos h2]
    have h3 : c ≤ 9223372036854775800 := by
      apply Decidable.byContradiction
      intro h
      have := tdiv_far (c := c) (by omega) (by omega)
      omega
    rw [tdiv_near (by omega) h3] at h2
    have h4 : (decide (c > 1099511627776)) = false := decide_eq_false (by omega)
    rw [h4]
    simp only [spec_l6Ok.j0, Bool.false_eq_true, if_false, Int.tmod_eq_emod_of_nonneg (show 0 ≤ c by omega)]
    by_cases h5 : c % 8 = 0
    · rw [if_pos h5]
      have : okB l c = true := by
        simp only [okB, decide_eq_true_eq]
        omega
      rw [this]
    rw [if_neg h5, wrap64_id (x := (l.length : Int) - 1) (by omega) (by omega), if_pos (by omega), if_pos (by omega), u64w (by omega) (by omega), if_pos (by omega)]
    by_cases h6 : shr .u8 (rd l ((l.length : Int) - 1)) (c % 8) = 0
    · rw [if_pos h6]
      have : okB l c = true := by
        simp only [okB, decide_eq_true_eq]
        exact ⟨by omega, by omega, h2, Or.inr h6⟩
      rw [this]
    · rw [if_neg h6]
      have : okB l c = false := by
        simp only [okB, decide_eq_false_iff_not]
        rintro ⟨_, _, _, h | h⟩
        · exact h5 h
        · exact h6 h
      rw [this]
  · rw [if_neg h2]
    have : okB l c = false := no (by
      rintro ⟨_, _, h⟩
      rw [tdiv_near (by omega) (by omega)] at h2
      exact h2 h)
    rw [this]
    simp only [spec_l6Ok.j0, if_true]

theorem impl_ok_at (l : List Int) (c : Int) (hl : l.length ≤ 1048576) (hc : -9223372036854775808 ≤ c ∧ c ≤ 9223372036854775807) (k : Nat) : impl_bitsOk.f (k + 1) l c = some (okB l c) := by
  have no : ¬ (0 ≤ c ∧ c ≤ 8388608 ∧ (l.length : Int) = (c + 7) / 8) → okB l c = false := by
    intro h
    simp only [okB, decide_eq_false_iff_not]
    omega
  unfold impl_bitsOk.f
  by_cases h1 : c < 0
  · rw [if_pos h1, no (by omega)]
    simp only [impl_bitsOk.j0, if_true]
  rw [if_neg h1]
  have e : wrap64 ((wrap64 (Int.tdiv c 8)) + (wrap64 (Int.tdiv (wrap64 ((Int.tmod c 8) + 7)) 8))) = c / 8 + (c % 8 + 7) / 8 := by
    rw [Int.tdiv_eq_ediv_of_nonneg (show 0 ≤ c by omega), Int.tmod_eq_emod_of_nonneg (show 0 ≤ c by omega), wrap64_id (x := c % 8 + 7) (by omega) (by omega), Int.tdiv_eq_ediv_of_nonneg (by omega), wrap64_id (x := c / 8) (by omega) (by omega), wrap64_id (x := (c % 8 + 7) / 8) (by omega) (by omega), wrap64_id (by omega) (by omega)]
  rw [e]
  by_cases h2 : (l.length : Int) = c / 8 + (c % 8 + 7) / 8
  · have h3 : ((l.length : Int) != c / 8 + (c % 8 + 7) / 8) = false := by
      rw [h2]
      exact bne_self_eq_false _
    rw [h3]
    simp only [impl_bitsOk.j0, Bool.false_eq_true, if_false, Int.tmod_eq_emod_of_nonneg (show 0 ≤ c by omega)]
    by_cases h5 : c % 8 = 0
    · rw [if_neg (by omega)]
      have : okB l c = true := by
        simp only [okB, decide_eq_true_eq]
        omega
      rw [this]
    rw [if_pos (by omega), wrap64_id (x := (l.length : Int) - 1) (by omega) (by omega), if_pos (by omega), if_pos (by omega), if_pos (by omega)]
    by_cases h6 : shr .u8 (rd l ((l.length : Int) - 1)) (c % 8) = 0
    · rw [if_pos h6]
      have : okB l c = true := by
        simp only [okB, decide_eq_true_eq]
        exact ⟨by omega, by omega, by omega, Or.inr h6⟩
      rw [this]
    · rw [if_neg h6]
      have : okB l c = false := by
        simp only [okB, decide_eq_false_iff_not]
        rintro ⟨_, _, _, h | h⟩
        · exact h5 h
        · exact h6 h
      rw [this]
  · have h3 : ((l.length : Int) != c / 8 + (c % 8 + 7) / 8) = true := bne_iff_ne.2 h2
    rw [h3, no (by omega)]
    simp only [impl_bitsOk.j0, if_true]

theorem laws_szByteS_at (l : List Int) (left : Int) (hl : l.length ≤ 9223372036854775807) (h0 : 0 ≤ left) (h1 : left ≤ 1048576) : laws_szByteS.f l left = some (if left - (l.length : Int) < 0 then -1 else left - l.length) := by
  unfold laws_szByteS.f
  rw [wrap64_id (by omega) (by omega)]
  split <;> rfl

theorem laws_toByteS_ev (l : List Int) (hl : l.length ≤ 1048576) : Ev (fun k => laws_toByteS.f k l) l := by
  have := copy_loop (fun k ys i => laws_toByteS.l0 k l ys i) l (fun x => x) (fun k ys => by simp only [laws_toByteS.l0]; rw [if_neg (by omega)])
    (fun i hi ys hy r h => by
      refine Ev.step (f := fun k => laws_toByteS.l0 k l (ys.set i l[i]) ((i + 1 : Nat) : Int)) (fun k => ?_) h
      simp only [laws_toByteS.l0]
      rw [if_pos (by omega), if_pos (by omega), if_pos (by omega), rd_at hi, wrap64_next hi (by omega)]
      rfl) (List.replicate ((l.length : Int)).toNat 0) (by simp)
  rw [List.map_id'] at this
  refine Ev.congr (fun k => ?_) this
  unfold laws_toByteS.f
  rw [if_pos (by omega), if_pos (by omega)]


theorem laws_eqByteS_ev (l : List Int) (hl : l.length ≤ 1099511627776) : Ev (fun k => laws_eqByteS.f k l l) true := by
  have := eq_loop (fun k i => laws_eqByteS.l0 k l l i) l.length (fun k => by simp only [laws_eqByteS.l0]; rw [if_neg (by omega)])
    (fun i hi h => by
      refine Ev.step (f := fun k => laws_eqByteS.l0 k l l ((i + 1 : Nat) : Int)) (fun k => ?_) h
      simp only [laws_eqByteS.l0]
      rw [if_pos (by omega), if_pos (by omega), if_pos (by omega), if_pos trivial, wrap64_next hi (by omega)])
  refine Ev.congr (fun k => ?_) this
  unfold laws_eqByteS.f
  rw [if_pos rfl]

def laws_markByteS_s (m : Int) (n : Nat) : List Int := (List.range n).map fun (i : Nat) => (((m + (i : Int))) % 256)
theorem laws_markByteS_s_at (m : Int) (n i : Nat) (h : i < (laws_markByteS_s m n).length) : (laws_markByteS_s m n)[i] = (((m + (i : Int))) % 256) := by
  simp [laws_markByteS_s]
theorem laws_markByteS_s_len (m : Int) (n : Nat) : (laws_markByteS_s m n).length = n := by simp [laws_markByteS_s]
theorem laws_markByteS_ev (l : List Int) (m : Int) (hl : l.length ≤ 1099511627776) (h0 : 0 ≤ m) (h1 : m ≤ 1099511627776) : Ev (fun k => laws_markByteS.f k l m) (m + l.length, laws_markByteS_s m l.length) := by
  have main : ∀ (d i : Nat) (ys : List Int), i + d = l.length → ys.length = l.length → (∀ j (h : j < ys.length), j < i → ys[j] = (((m + (j : Int))) % 256)) → Ev (fun k => laws_markByteS.l0 k ys (m + i) (i : Int)) (m + l.length, laws_markByteS_s m l.length) := by
    intro d
    induction d with
    | zero =>
      intro i ys hi hy hp
      have e : ys = laws_markByteS_s m l.length := List.ext_getElem (by rw [hy, laws_markByteS_s_len]) (fun j h1 h2 => by rw [hp j h1 (by omega), laws_markByteS_s_at])
      refine Ev.step (f := fun _ => some (m + l.length, laws_markByteS_s m l.length)) (fun k => ?_) (Ev.now _)
      simp only [laws_markByteS.l0]
      rw [if_neg (by omega), ← e, show (i : Int) = (l.length : Int) by omega]
    | succ d ih =>
      intro i ys hi hy hp
      refine Ev.step (fun k => ?_) (ih (i + 1) (ys.set i (((m + (i : Int))) % 256)) (by omega) (by simpa using hy) (fun j h hj => ?_))
      · simp only [laws_markByteS.l0]
        rw [if_pos (by omega), if_pos (by omega), wrap64_next (show i < l.length by omega) (by omega), wrap64_id (x := m + (i : Int) + 1) (by omega) (by omega), show m + (i : Int) + 1 = m + ((i + 1 : Nat) : Int) by omega]
        rfl
      · rw [List.getElem_set]
        by_cases e : i = j
        · subst e
          rw [if_pos rfl]
        · rw [if_neg e]
          exact hp j (by simpa using h) (by omega)
  have := main l.length 0 l (by omega) rfl (fun j _ h => by omega)
  simp only [Int.natCast_zero, Int.add_zero] at this
  exact this
theorem laws_heldByteS_ev (m : Int) (n : Nat) (hl : n ≤ 1099511627776) (h0 : 0 ≤ m) (h1 : m ≤ 1099511627776) : Ev (fun k => laws_heldByteS.f k (laws_markByteS_s m n) m) (m + n) := by
  have main : ∀ (d i : Nat), i + d = n → Ev (fun k => laws_heldByteS.l0 k (laws_markByteS_s m n) (m + i) (i : Int)) (m + n) := by
    intro d
    induction d with
    | zero =>
      intro i hi
      refine Ev.step (f := fun _ => some (m + n)) (fun k => ?_) (Ev.now _)
      have hn := laws_markByteS_s_len m n
      simp only [laws_heldByteS.l0]
      rw [if_neg (by omega), show (i : Int) = (n : Int) by omega]
    | succ d ih =>
      intro i hi
      refine Ev.step (fun k => ?_) (ih (i + 1) (by omega))
      have hn := laws_markByteS_s_len m n
      have hlt : i < (laws_markByteS_s m n).length := by omega
      simp only [laws_heldByteS.l0]
      rw [if_pos (by omega), if_pos (by omega), rd_at hlt, laws_markByteS_s_at, if_pos rfl, wrap64_next hlt (by omega), wrap64_id (x := m + (i : Int) + 1) (by omega) (by omega), show m + (i : Int) + 1 = m + ((i + 1 : Nat) : Int) by omega]
  have := main n 0 (by omega)
  simp only [Int.natCast_zero, Int.add_zero] at this
  exact this


/-! putting bits behind others: the plain model and both programs' steps -/
def BW (l : List Int) (c : Nat) : Prop := (∀ y ∈ l, 0 ≤ y ∧ y < 256) ∧ l.length = (c + 7) / 8 ∧ (c % 8 = 0 ∨ (rd l ((c / 8 : Nat) : Int)).toNat < 2 ^ (c % 8))
def pl1 (l : List Int) (c : Nat) : List Int := if c % 8 = 0 then l ++ [0] else l
def pushB (l : List Int) (c b : Nat) : List Int := (pl1 l c).set (c / 8) (((rd (pl1 l c) ((c / 8 : Nat) : Int)).toNat + b * 2 ^ (c % 8) : Nat) : Int)
theorem rd_set_same {l : List Int} {i : Nat} (h : i < l.length) (v : Int) : rd (l.set i v) (i : Int) = v := by
  unfold rd
  simp [List.getD_eq_getElem?_getD, h]
theorem rd_set_other {l : List Int} {i : Nat} (v : Int) {j : Int} (h : j.toNat ≠ i) : rd (l.set i v) j = rd l j := by
  unfold rd
  simp [List.getD_eq_getElem?_getD, List.getElem?_set, Ne.symm h]
theorem rd_byteN {l : List Int} (h : ∀ y ∈ l, 0 ≤ y ∧ y < 256) (i : Int) : 0 ≤ rd l i ∧ rd l i < 256 := by
  unfold rd
  rw [List.getD_eq_getElem?_getD]
  by_cases hi : i.toNat < l.length
  · rw [List.getElem?_eq_getElem hi]
    exact h _ (List.getElem_mem hi)
  · rw [List.getElem?_eq_none (by omega)]
    decide
theorem pl1_bytes {l : List Int} {c : Nat} (h : BW l c) : ∀ y ∈ pl1 l c, 0 ≤ y ∧ y < 256 := by
  intro y hy
  unfold pl1 at hy
  split at hy
  · rcases List.mem_append.1 hy with hy | hy
    · exact h.1 y hy
    · simp at hy
      omega
  · exact h.1 y hy
theorem pl1_len {l : List Int} {c : Nat} (h : BW l c) : (pl1 l c).length = c / 8 + 1 := by
  have := h.2.1
  unfold pl1
  split
  · simp
    omega
  · omega
theorem pl1_lt {l : List Int} {c : Nat} (h : BW l c) : (rd (pl1 l c) ((c / 8 : Nat) : Int)).toNat < 2 ^ (c % 8) := by
  unfold pl1
  split
  · rename_i h0
    have e : rd (l ++ [0]) ((c / 8 : Nat) : Int) = 0 := by
      have := h.2.1
      unfold rd
      rw [List.getD_eq_getElem?_getD, List.getElem?_append_right (by omega)]
      have : (((c / 8 : Nat) : Int)).toNat - l.length = 0 := by omega
      rw [this]
      rfl
    rw [e, h0]
    decide
  · rename_i h0
    rcases h.2.2 with h | h
    · exact absurd h h0
    · exact h
theorem pow_cast (j : Nat) : (2 : Int) ^ (((j : Nat) : Int)).toNat = ((2 ^ j : Nat) : Int) := by simp
theorem two_pow_le {a b : Nat} (h : a ≤ b) : 2 ^ a ≤ 2 ^ b := Nat.pow_le_pow_right (by omega) h
theorem BW_push {l : List Int} {c b : Nat} (h : BW l c) (hb : b < 2) : BW (pushB l c b) (c + 1) := by
  have hx := pl1_lt h
  have hl := pl1_len h
  have hm : b * 2 ^ (c % 8) ≤ 1 * 2 ^ (c % 8) := Nat.mul_le_mul_right _ (by omega)
  have h8 : 2 ^ (c % 8 + 1) ≤ 2 ^ 8 := two_pow_le (by omega)
  have hs : 2 ^ (c % 8 + 1) = 2 ^ (c % 8) * 2 := Nat.pow_succ ..
  refine ⟨fun y hy => ?_, by unfold pushB; rw [List.length_set, hl]; omega, ?_⟩
  · unfold pushB at hy
    rcases List.mem_or_eq_of_mem_set hy with hy | hy
    · exact pl1_bytes h y hy
    · rw [hy]
      omega
  · by_cases h0 : (c + 1) % 8 = 0
    · exact Or.inl h0
    · right
      have e1 : (c + 1) / 8 = c / 8 := by omega
      have e2 : (c + 1) % 8 = c % 8 + 1 := by omega
      rw [e1, e2]
      unfold pushB
      rw [rd_set_same (by omega)]
      rw [Int.toNat_natCast]
      omega
theorem BW_le {l : List Int} {c : Nat} (h : BW l c) : l.length = (c + 7) / 8 := h.2.1
theorem or_add {x j b : Nat} (hx : x < 2 ^ j) (hj : j < 8) (hb : b < 2) : Go.bits .or .u8 (x : Int) ((b * 2 ^ j : Nat) : Int) = ((x + b * 2 ^ j : Nat) : Int) := by
  have hm : b * 2 ^ j ≤ 1 * 2 ^ j := Nat.mul_le_mul_right _ (by omega)
  have h8 : 2 ^ j ≤ 2 ^ 7 := two_pow_le (by omega)
  rw [u8_or_nat x (b * 2 ^ j) (by omega) (by omega), Nat.or_comm, nat_join j (b * 2 ^ j) x (by simp) hx, Nat.add_comm]
theorem put_idx (c : Nat) (hc : c ≤ 1099511627776) : wrap64 (Int.tdiv (c : Int) 8) = ((c / 8 : Nat) : Int) ∧ Int.tmod (c : Int) 8 = ((c % 8 : Nat) : Int) ∧ wrap64 ((c : Int) + 1) = ((c + 1 : Nat) : Int) := by
  refine ⟨?_, ?_, ?_⟩
  · rw [Int.tdiv_eq_ediv_of_nonneg (by omega), wrap64_id (by omega) (by omega)]
    omega
  · rw [Int.tmod_eq_emod_of_nonneg (by omega)]
    omega
  · unfold wrap64
    omega
theorem shr_nat {v i : Nat} (hi : i ≤ 64) : shr .u64 (v : Int) (i : Int) = ((v / 2 ^ i : Nat) : Int) := by
  unfold shr
  rw [Nat.min_eq_left (by simp [IntKind.bits]; omega)]
  have e3 : (2 : Int) ^ ((i : Int)).toNat = ((2 ^ i : Nat) : Int) := by simp
  rw [e3, ← Int.natCast_ediv]
theorem and_one {x : Nat} (hx : x < 18446744073709551616) : Go.bits .and .u64 (x : Int) 1 = ((x % 2 : Nat) : Int) := by
  rw [show (1 : Int) = ((1 : Nat) : Int) from rfl, u64_and_nat x 1 hx (by omega), nat_mask1]
theorem shl_one {j : Nat} (hj : j < 8) : shl .u8 1 (j : Int) = ((1 * 2 ^ j : Nat) : Int) := by
  have h8 : 2 ^ j ≤ 2 ^ 7 := two_pow_le (by omega)
  unfold shl
  rw [Nat.min_eq_left (by simp [IntKind.bits]; omega)]
  have : (1 : Int) * 2 ^ ((j : Int)).toNat = ((1 * 2 ^ j : Nat) : Int) := by simp
  rw [this, show IntKind.u8.wrap (((1 * 2 ^ j : Nat) : Int)) = (((1 * 2 ^ j : Nat) : Int)) % 256 by simp [IntKind.wrap, IntKind.bits, IntKind.signed], Int.emod_eq_of_lt (by omega) (by omega)]
theorem rd_cast {l : List Int} (h : ∀ y ∈ l, 0 ≤ y ∧ y < 256) (i : Int) : rd l i = (((rd l i).toNat : Nat) : Int) := by
  have := rd_byteN h i
  omega
theorem impl_push_at {l : List Int} {c v i : Nat} (h : BW l c) (hc : c ≤ 1099511627776) (hv : v < 18446744073709551616) (hi : i < 64) : impl_Bits_put.at_ (pl1 l c) (c : Int) (v : Int) (i : Int) = some (pushB l c (v / 2 ^ i % 2)) := by
  obtain ⟨e1, e2, _⟩ := put_idx c hc
  have hl := pl1_len h
  have hx := pl1_lt h
  have hb : v / 2 ^ i % 2 < 2 := Nat.mod_lt _ (by omega)
  have hv2 : v / 2 ^ i < 18446744073709551616 := Nat.lt_of_le_of_lt (Nat.div_le_self _ _) hv
  have e3 : (Go.bits .and .u64 (shr .u64 (v : Int) (i : Int)) 1 % 256 * 2 ^ (((c % 8 : Nat) : Int)).toNat % 256) = ((v / 2 ^ i % 2 * 2 ^ (c % 8) : Nat) : Int) := by
    rw [shr_nat (by omega), and_one hv2]
    generalize v / 2 ^ i % 2 = b at hb
    have hm : b * 2 ^ (c % 8) ≤ 1 * 2 ^ (c % 8) := Nat.mul_le_mul_right _ (by omega)
    have h8 : 2 ^ (c % 8) ≤ 2 ^ 7 := two_pow_le (by omega)
    rw [Int.emod_eq_of_lt (a := (b : Int)) (by omega) (by omega)]
    have : (b : Int) * 2 ^ (((c % 8 : Nat) : Int)).toNat = ((b * 2 ^ (c % 8) : Nat) : Int) := by rw [pow_cast, Int.natCast_mul]
    rw [this, Int.emod_eq_of_lt (by omega) (by omega)]
  unfold impl_Bits_put.at_
  rw [e1, e2, if_pos (by omega), if_pos (by omega), if_pos (by omega), if_pos (by omega), e3, rd_cast (pl1_bytes h), or_add hx (by omega) hb]
  unfold pushB
  rw [Int.toNat_natCast]
theorem spec_push_at {l : List Int} {c b : Nat} (h : BW l c) (hc : c ≤ 1099511627776) (hb : b < 2) : spec_l6Push.f l (c : Int) (b : Int) = some (pushB l c b, ((c + 1 : Nat) : Int)) := by
  obtain ⟨e1, e2, e3⟩ := put_idx c hc
  have hl := pl1_len h
  have hl0 := h.2.1
  have hx := pl1_lt h
  have e4 : IntKind.u64.wrap ((c % 8 : Nat) : Int) = ((c % 8 : Nat) : Int) := u64w (by omega) (by omega)
  have main : (if (b : Int) = 1 then (if 0 ≤ (wrap64 (Int.tdiv (c : Int) 8)) then (if (wrap64 (Int.tdiv (c : Int) 8)) < ((pl1 l c).length : Int) then (if 0 ≤ (IntKind.u64.wrap (Int.tmod (c : Int) 8)) then (some ((((pl1 l c).set ((wrap64 (Int.tdiv (c : Int) 8)) : Int).toNat (Go.bits .or .u8 (rd (pl1 l c) (wrap64 (Int.tdiv (c : Int) 8))) (shl .u8 1 (IntKind.u64.wrap (Int.tmod (c : Int) 8)))))), wrap64 ((c : Int) + 1))) else (none)) else (none)) else (none)) else (some (pl1 l c, wrap64 ((c : Int) + 1)))) = some (pushB l c b, ((c + 1 : Nat) : Int)) := by
    rw [e1, e2, e3, e4]
    rcases (show b = 0 ∨ b = 1 by omega) with rfl | rfl
    · rw [if_neg (by omega)]
      have : pushB l c 0 = pl1 l c := by
        unfold pushB
        rw [Nat.zero_mul, Nat.add_zero, ← rd_cast (pl1_bytes h)]
        have hlt : c / 8 < (pl1 l c).length := by omega
        rw [rd_at hlt]
        exact List.set_getElem_self hlt
      rw [this]
    · rw [if_pos (show ((1 : Nat) : Int) = 1 by rfl), if_pos (by omega), if_pos (by omega), if_pos (by omega), rd_cast (pl1_bytes h), shl_one (by omega), or_add hx (by omega) (by omega)]
      unfold pushB
      rw [Int.toNat_natCast]
  unfold spec_l6Push.f
  by_cases h0 : c % 8 = 0
  · have e5 : pl1 l c = l ++ [0] := by
      unfold pl1
      rw [if_pos h0]
    rw [e5] at main
    rw [if_pos (by rw [e2]; omega), if_pos (by omega), Option.bind_some]
    exact main
  · have e5 : pl1 l c = l := by
      unfold pl1
      rw [if_neg h0]
    rw [e5] at main
    rw [if_neg (by rw [e2]; omega)]
    exact main
/-- d bits of v from bit i on, put one by one. -/
def putN (v : Nat) : Nat → Nat → List Int → Nat → List Int
  | 0, _, l, _ => l
  | d + 1, i, l, c => putN v d (i + 1) (pushB l c (v / 2 ^ i % 2)) (c + 1)
theorem BW_putN {v : Nat} : ∀ (d i : Nat) (l : List Int) (c : Nat), BW l c → BW (putN v d i l c) (c + d) := by
  intro d
  induction d with
  | zero => exact fun i l c h => h
  | succ d ih =>
    intro i l c h
    have := ih (i + 1) (pushB l c (v / 2 ^ i % 2)) (c + 1) (BW_push h (Nat.mod_lt _ (by omega)))
    rw [show c + 1 + d = c + (d + 1) by omega] at this
    exact this
theorem putN_snoc {v : Nat} : ∀ (d i : Nat) (l : List Int) (c : Nat), putN v (d + 1) i l c = pushB (putN v d i l c) (c + d) (v / 2 ^ (i + d) % 2) := by
  intro d
  induction d with
  | zero => exact fun i l c => rfl
  | succ d ih =>
    intro i l c
    rw [show putN v (d + 1 + 1) i l c = putN v (d + 1) (i + 1) (pushB l c (v / 2 ^ i % 2)) (c + 1) from rfl, ih]
    rw [show c + 1 + d = c + (d + 1) by omega, show i + 1 + d = i + (d + 1) by omega]
    rfl
theorem putN_congr {v u : Nat} : ∀ (d i : Nat) (l : List Int) (c : Nat), (∀ j, i ≤ j → j < i + d → v / 2 ^ j % 2 = u / 2 ^ j % 2) → putN v d i l c = putN u d i l c := by
  intro d
  induction d with
  | zero => exact fun i l c _ => rfl
  | succ d ih =>
    intro i l c h
    simp only [putN]
    rw [h i (by omega) (by omega), ih (i + 1) _ _ (fun j h1 h2 => h j (by omega) (by omega))]
theorem impl_put_ev {v n : Nat} (hv : v < 18446744073709551616) (hn : n ≤ 64) : ∀ (d i : Nat) (l : List Int) (c : Nat), BW l c → i + d = n → c + d ≤ 1099511627776 → Ev (fun k => impl_Bits_put.l0 k (v : Int) (n : Int) (i : Int) l (c : Int)) (putN v d i l c, ((c + d : Nat) : Int)) := by
  intro d
  induction d with
  | zero =>
    intro i l c h hi hc
    refine Ev.step (f := fun _ => some (l, (c : Int))) (fun k => ?_) (Ev.now _)
    simp only [impl_Bits_put.l0]
    rw [if_neg (by omega)]
  | succ d ih =>
    intro i l c h hi hc
    have h1 := ih (i + 1) (pushB l c (v / 2 ^ i % 2)) (c + 1) (BW_push h (Nat.mod_lt _ (by omega))) (by omega) (by omega)
    rw [show c + 1 + d = c + (d + 1) by omega] at h1
    have hp := impl_push_at (i := i) h (by omega) hv (by omega)
    obtain ⟨_, e2, e3⟩ := put_idx c (by omega)
    have e4 : wrap64 ((i : Int) + 1) = ((i + 1 : Nat) : Int) := by
      unfold wrap64
      omega
    have hl0 := h.2.1
    refine Ev.step (fun k => ?_) h1
    simp only [impl_Bits_put.l0]
    rw [if_pos (by omega), e3, e4]
    by_cases h0 : c % 8 = 0
    · have e5 : pl1 l c = l ++ [0] := by
        unfold pl1
        rw [if_pos h0]
      rw [e5] at hp
      rw [if_pos (by rw [e2]; omega), if_pos (by omega), hp]
      rfl
    · have e5 : pl1 l c = l := by
        unfold pl1
        rw [if_neg h0]
      rw [e5] at hp
      rw [if_neg (by rw [e2]; omega), hp]
      rfl
theorem spec_put_ev {v n : Nat} (hv : v < 18446744073709551616) (hn : n ≤ 64) : ∀ (d i : Nat) (l : List Int) (c : Nat), BW l c → i + d = n → c + d ≤ 1099511627776 → Ev (fun k => spec_l6PutBits.l0 k (v : Int) (n : Int) (i : Int) l (c : Int)) (putN v d i l c, ((c + d : Nat) : Int)) := by
  intro d
  induction d with
  | zero =>
    intro i l c h hi hc
    refine Ev.step (f := fun _ => some (l, (c : Int))) (fun k => ?_) (Ev.now _)
    simp only [spec_l6PutBits.l0]
    rw [if_neg (by omega)]
  | succ d ih =>
    intro i l c h hi hc
    have h1 := ih (i + 1) (pushB l c (v / 2 ^ i % 2)) (c + 1) (BW_push h (Nat.mod_lt _ (by omega))) (by omega) (by omega)
    rw [show c + 1 + d = c + (d + 1) by omega] at h1
    have hb : v / 2 ^ i % 2 < 2 := Nat.mod_lt _ (by omega)
    have hv2 : v / 2 ^ i < 18446744073709551616 := Nat.lt_of_le_of_lt (Nat.div_le_self _ _) hv
    have hp := spec_push_at h (by omega) hb
    have e4 : wrap64 ((i : Int) + 1) = ((i + 1 : Nat) : Int) := by
      unfold wrap64
      omega
    have e6 : IntKind.u64.wrap (i : Int) = (i : Int) := u64w (by omega) (by omega)
    have e7 : Go.bits .and .u64 (shr .u64 (v : Int) (i : Int)) 1 = ((v / 2 ^ i % 2 : Nat) : Int) := by
      rw [shr_nat (by omega), and_one hv2]
    refine Ev.step (fun k => ?_) h1
    simp only [spec_l6PutBits.l0]
    rw [if_pos (by omega), e6, if_pos (by omega), e7, hp, e4]
    rfl
/-- Well-formed bits, told by numbers of Nat. -/
theorem okB_BW {l : List Int} {c : Int} (hB : ∀ y ∈ l, 0 ≤ y ∧ y < 256) (h : okB l c = true) : ∃ m : Nat, c = (m : Int) ∧ m ≤ 8388608 ∧ BW l m := by
  simp only [okB, decide_eq_true_eq] at h
  obtain ⟨h0, h1, h2, h3⟩ := h
  refine ⟨c.toNat, by omega, by omega, hB, by omega, ?_⟩
  rcases h3 with h3 | h3
  · left
    omega
  · by_cases h4 : c.toNat % 8 = 0
    · exact Or.inl h4
    · right
      have e1 : (l.length : Int) - 1 = ((c.toNat / 8 : Nat) : Int) := by omega
      have e2 : c % 8 = ((c.toNat % 8 : Nat) : Int) := by omega
      rw [e1, e2] at h3
      have hx := rd_byteN hB ((c.toNat / 8 : Nat) : Int)
      unfold shr at h3
      rw [Nat.min_eq_left (by simp [IntKind.bits]; omega)] at h3
      have e3 : (2 : Int) ^ (((c.toNat % 8 : Nat) : Int)).toNat = ((2 ^ (c.toNat % 8) : Nat) : Int) := pow_cast _
      rw [e3, rd_cast hB, ← Int.natCast_ediv] at h3
      have h5 : (rd l ((c.toNat / 8 : Nat) : Int)).toNat / 2 ^ (c.toNat % 8) = 0 := by exact_mod_cast h3
      have hp : 0 < 2 ^ (c.toNat % 8) := Nat.pow_pos (by omega)
      exact (Nat.div_eq_zero_iff_lt hp).1 h5
/-- .. and the other way. -/
theorem BW_okB {l : List Int} {m : Nat} (h : BW l m) (hm : m ≤ 8388608) : okB l (m : Int) = true := by
  obtain ⟨hB, hl, h3⟩ := h
  simp only [okB, decide_eq_true_eq]
  refine ⟨by omega, by omega, by omega, ?_⟩
  rcases h3 with h3 | h3
  · left
    omega
  · by_cases h4 : m % 8 = 0
    · left
      omega
    · right
      have e1 : (l.length : Int) - 1 = ((m / 8 : Nat) : Int) := by omega
      have e2 : (m : Int) % 8 = ((m % 8 : Nat) : Int) := by omega
      rw [e1, e2]
      unfold shr
      rw [Nat.min_eq_left (by simp [IntKind.bits]; omega)]
      have e3 : (2 : Int) ^ (((m % 8 : Nat) : Int)).toNat = ((2 ^ (m % 8) : Nat) : Int) := pow_cast _
      rw [e3, rd_cast hB, ← Int.natCast_ediv, Nat.div_eq_of_lt h3]
      rfl
theorem BW_nil : BW [] 0 := ⟨fun y h => by simp at h, rfl, Or.inl rfl⟩
/-- What the bits are at the start. -/
def startL (l : List Int) (c : Int) : List Int := if okB l c = true then l else []
def startC (l : List Int) (c : Int) : Nat := if okB l c = true then c.toNat else 0
theorem start_BW {l : List Int} {c : Int} (hB : ∀ y ∈ l, 0 ≤ y ∧ y < 256) : BW (startL l c) (startC l c) ∧ startC l c ≤ 8388608 := by
  unfold startL startC
  by_cases h : okB l c = true
  · rw [if_pos h, if_pos h]
    obtain ⟨m, rfl, hm, hb⟩ := okB_BW hB h
    exact ⟨hb, hm⟩
  · rw [if_neg h, if_neg h]
    exact ⟨BW_nil, by omega⟩
theorem impl_right_ev (l : List Int) (c : Int) (hl : l.length ≤ 1048576) (hc : -9223372036854775808 ≤ c ∧ c ≤ 9223372036854775807) : Ev (fun k => impl_right.f k l c) (startL l c, (startC l c : Int)) := by
  unfold impl_right.f
  refine Ev.bind (a := okB l c) (Ev.step (fun k => impl_ok_at l c hl hc k) (Ev.now _)) ?_
  unfold startL startC
  by_cases h : okB l c = true
  · obtain ⟨b1, _, _⟩ := okB_c h
    simp only [if_pos h]
    refine Ev.congr (f := fun _ => some (l, ((c.toNat : Nat) : Int))) (fun k => ?_) (Ev.now _)
    rw [if_pos (by simp; omega), show ((c.toNat : Nat) : Int) = c by omega, List.nil_append]
  · simp only [if_neg h]
    exact Ev.now _

theorem spec_start_ev (l : List Int) (c : Int) (hl : l.length ≤ 1048576) (hc : -9223372036854775808 ≤ c ∧ c ≤ 9223372036854775807) : Ev (fun k => spec_l6Start.f k l c) (startL l c, (startC l c : Int)) := by
  unfold spec_l6Start.f
  refine Ev.bind (a := okB l c) (Ev.step (fun k => spec_ok_at l c hl hc k) (Ev.now _)) ?_
  unfold startL startC
  by_cases h : okB l c = true
  · obtain ⟨b1, _, _⟩ := okB_c h
    simp only [if_pos h, Option.bind_some]
    refine Ev.congr (f := fun _ => some (l, ((c.toNat : Nat) : Int))) (fun k => ?_) (Ev.now _)
    rw [if_pos (by simp; omega), show ((c.toNat : Nat) : Int) = c by omega, List.nil_append]
  · simp only [if_neg h]
    exact Ev.now _

/-- The low part of a number, and a bit behind it. -/
theorem low_bits {v m : Nat} : ∀ j, j < m → v % 2 ^ m / 2 ^ j % 2 = v / 2 ^ j % 2 := by
  intro j hj
  have e : v % 2 ^ m / 2 ^ j = v / 2 ^ j % 2 ^ (m - j) := by
    rw [show m = j + (m - j) by omega, Nat.pow_add, Nat.mod_mul_right_div_self, show j + (m - j) - j = m - j by omega]
  have e2 : 2 ^ (m - j) = 2 * 2 ^ (m - j - 1) := by
    rw [← Nat.pow_succ', show (m - j - 1).succ = m - j by omega]
  rw [e, e2, Nat.mod_mul_right_mod]
theorem piece_bits {x b m : Nat} (hx : x < 2 ^ m) (hb : b < 2) : (∀ j, j < m → (x + b * 2 ^ m) / 2 ^ j % 2 = x / 2 ^ j % 2) ∧ (x + b * 2 ^ m) / 2 ^ m % 2 = b := by
  have p : 0 < 2 ^ m := Nat.pow_pos (by omega)
  constructor
  · intro j hj
    have h1 := low_bits (v := x + b * 2 ^ m) (m := m) j hj
    rw [Nat.add_mul_mod_self_right, Nat.mod_eq_of_lt hx] at h1
    exact h1.symm
  · rw [Nat.add_mul_div_right _ _ p, Nat.div_eq_of_lt hx, Nat.zero_add, Nat.mod_eq_of_lt hb]
/-- A piece and the bit that tells of more, put in two steps or in one. -/
theorem put_piece (l : List Int) (c x b m : Nat) (hx : x < 2 ^ m) (hb : b < 2) : pushB (putN x m 0 l c) (c + m) b = putN (x + b * 2 ^ m) (m + 1) 0 l c := by
  obtain ⟨h1, h2⟩ := piece_bits hx hb
  rw [putN_snoc, Nat.zero_add, h2, putN_congr (v := x + b * 2 ^ m) (u := x) m 0 l c (fun j _ hj => h1 j (by omega))]
theorem mask_nat {v m : Nat} (hv : v < 18446744073709551616) (hm : m < 63) : Go.bits .and .u64 (v : Int) (IntKind.u64.wrap (((2 ^ m : Nat) : Int) - 1)) = ((v % 2 ^ m : Nat) : Int) := by
  have p1 : 0 < (2 : Nat) ^ m := Nat.pow_pos (by omega)
  have p2 : (2 : Nat) ^ m ≤ 2 ^ 62 := two_pow_le (by omega)
  rw [show ((2 ^ m : Nat) : Int) - 1 = ((2 ^ m - 1 : Nat) : Int) by omega, u64w (by omega) (by omega), u64_and_nat _ _ hv (by omega), Nat.and_two_pow_sub_one_eq_mod]
theorem more_nat {x m : Nat} (hx : x < 2 ^ m) (hm : m < 63) : Go.bits .or .u64 (x : Int) ((2 ^ m : Nat) : Int) = ((x + 1 * 2 ^ m : Nat) : Int) := by
  have p2 : (2 : Nat) ^ m ≤ 2 ^ 62 := two_pow_le (by omega)
  rw [u64_or_nat _ _ (by omega) (by omega), Nat.or_comm, nat_join m (2 ^ m) x (by simp) hx, Nat.one_mul, Nat.add_comm]
theorem pow_u64 {m : Nat} (hm : m < 63) : IntKind.u64.wrap (2 ^ m) = ((2 ^ m : Nat) : Int) := by
  have p2 : (2 : Nat) ^ m ≤ 2 ^ 62 := two_pow_le (by omega)
  have : (2 : Int) ^ m = ((2 ^ m : Nat) : Int) := by simp
  rw [this]
  generalize 2 ^ m = q at p2
  exact u64w (by omega) (by omega)
theorem shl_one64 {m : Nat} (hm : m < 63) : shl .u64 1 (m : Int) = ((2 ^ m : Nat) : Int) := by
  have p2 : (2 : Nat) ^ m ≤ 2 ^ 62 := two_pow_le (by omega)
  unfold shl
  rw [Nat.min_eq_left (by simp [IntKind.bits]; omega), Int.one_mul, pow_cast]
  generalize 2 ^ m = q at p2
  exact u64w (by omega) (by omega)
/-- One round of the program. -/
theorem impl_var_round {l : List Int} {c v m : Nat} (h : BW l c) (hc : c ≤ 1099511627000) (hv : v < 18446744073709551616) (hm : 1 ≤ m ∧ m ≤ 31) :
    (v / 2 ^ m = 0 → Ev (fun k => impl_Bits_putVar.l0 k (v : Int) ((m + 1 : Nat) : Int) l (c : Int)) (putN (v % 2 ^ m) (m + 1) 0 l c, ((c + (m + 1) : Nat) : Int))) ∧
    (v / 2 ^ m ≠ 0 → ∀ r, Ev (fun k => impl_Bits_putVar.l0 k ((v / 2 ^ m : Nat) : Int) ((m + 1 : Nat) : Int) (putN (v % 2 ^ m + 1 * 2 ^ m) (m + 1) 0 l c) ((c + (m + 1) : Nat) : Int)) r → Ev (fun k => impl_Bits_putVar.l0 k (v : Int) ((m + 1 : Nat) : Int) l (c : Int)) r) := by
  have et : (((m + 1 : Nat) : Int)).toNat - 1 = m := by omega
  have p1 : 0 < (2 : Nat) ^ m := Nat.pow_pos (by omega)
  have hx : v % 2 ^ m < 2 ^ m := Nat.mod_lt _ p1
  have p2 : (2 : Nat) ^ m ≤ 2 ^ 31 := two_pow_le (by omega)
  have ev : (v : Int) / 2 ^ m = ((v / 2 ^ m : Nat) : Int) := by
    rw [show (2 : Int) ^ m = ((2 ^ m : Nat) : Int) by simp, ← Int.natCast_ediv]
  have em : Go.bits .and .u64 (v : Int) (IntKind.u64.wrap (IntKind.u64.wrap (2 ^ m) - 1)) = ((v % 2 ^ m : Nat) : Int) := by
    rw [pow_u64 (by omega), mask_nat hv (by omega)]
  constructor
  · intro h0
    have i1 := impl_put_ev (v := v % 2 ^ m) (n := m + 1) (by omega) (by omega) (m + 1) 0 l c h (by omega) (by omega)
    refine Ev.step (fun k => ?_) i1
    simp only [impl_Bits_putVar.l0, et, ev, em]
    rw [if_pos (by omega)]
    rfl
  · intro h0 r hr
    have i1 := impl_put_ev (v := v % 2 ^ m + 1 * 2 ^ m) (n := m + 1) (by omega) (by omega) (m + 1) 0 l c h (by omega) (by omega)
    refine Ev.step (fun k => ?_) (Ev.bind (f := fun k t => impl_Bits_putVar.l0 k ((v / 2 ^ m : Nat) : Int) ((m + 1 : Nat) : Int) t.1 t.2) i1 hr)
    simp only [impl_Bits_putVar.l0, et, ev, pow_u64 (show m < 63 by omega), mask_nat hv (show m < 63 by omega), more_nat hx (show m < 63 by omega)]
    rw [if_neg (by omega)]
    rfl
/-- .. and of the specification. -/
theorem spec_var_round {l : List Int} {c v m : Nat} (h : BW l c) (hc : c ≤ 1099511627000) (hv : v < 18446744073709551616) (hm : 1 ≤ m ∧ m ≤ 31) :
    (v / 2 ^ m = 0 → Ev (fun k => spec_l6PutVar.l0 k (v : Int) ((m + 1 : Nat) : Int) l (c : Int)) (putN (v % 2 ^ m) (m + 1) 0 l c, ((c + (m + 1) : Nat) : Int))) ∧
    (v / 2 ^ m ≠ 0 → ∀ r, Ev (fun k => spec_l6PutVar.l0 k ((v / 2 ^ m : Nat) : Int) ((m + 1 : Nat) : Int) (putN (v % 2 ^ m + 1 * 2 ^ m) (m + 1) 0 l c) ((c + (m + 1) : Nat) : Int)) r → Ev (fun k => spec_l6PutVar.l0 k (v : Int) ((m + 1 : Nat) : Int) l (c : Int)) r) := by
  have e1 : wrap64 (((m + 1 : Nat) : Int) - 1) = (m : Int) := by rw [wrap64_id (by omega) (by omega)]; omega
  have e2 : IntKind.u64.wrap (m : Int) = (m : Int) := u64w (by omega) (by omega)
  have p1 : 0 < (2 : Nat) ^ m := Nat.pow_pos (by omega)
  have hx : v % 2 ^ m < 2 ^ m := Nat.mod_lt _ p1
  have p2 : (2 : Nat) ^ m ≤ 2 ^ 31 := two_pow_le (by omega)
  have em : Go.bits .and .u64 (v : Int) (IntKind.u64.wrap (shl .u64 1 (m : Int) - 1)) = ((v % 2 ^ m : Nat) : Int) := by
    rw [shl_one64 (by omega), mask_nat hv (by omega)]
  have s1 := spec_put_ev (v := v % 2 ^ m) (n := m) (by omega) (by omega) m 0 l c h (by omega) (by omega)
  have hb := BW_putN (v := v % 2 ^ m) m 0 l c h
  constructor
  · intro h0
    have p := spec_push_at (b := 0) hb (by omega) (by omega)
    rw [put_piece l c _ 0 m hx (by omega), Nat.zero_mul, Nat.add_zero, show c + m + 1 = c + (m + 1) by omega] at p
    refine Ev.step (fun k => ?_) (Ev.bind (f := fun k (t : List Int × Int) => (spec_l6Push.f t.1 t.2 0).bind fun u => some (u.1, u.2)) s1 ?_)
    · simp only [spec_l6PutVar.l0, e1, e2, em, shr_nat (show m ≤ 64 by omega)]
      simp only [if_pos (show (0 : Int) ≤ (m : Int) by omega), if_pos (show ((v / 2 ^ m : Nat) : Int) = 0 by omega)]
      rfl
    · refine Ev.congr (f := fun _ => some (putN (v % 2 ^ m) (m + 1) 0 l c, ((c + (m + 1) : Nat) : Int))) (fun k => ?_) (Ev.now _)
      rw [show (0 : Int) = ((0 : Nat) : Int) from rfl, p]
      rfl
  · intro h0 r hr
    have p := spec_push_at (b := 1) hb (by omega) (by omega)
    rw [put_piece l c _ 1 m hx (by omega), show c + m + 1 = c + (m + 1) by omega] at p
    refine Ev.step (fun k => ?_) (Ev.bind (f := fun k (t : List Int × Int) => (spec_l6Push.f t.1 t.2 1).bind fun u => spec_l6PutVar.l0 k ((v / 2 ^ m : Nat) : Int) ((m + 1 : Nat) : Int) u.1 u.2) s1 ?_)
    · simp only [spec_l6PutVar.l0, e1, e2, em, shr_nat (show m ≤ 64 by omega)]
      simp only [if_pos (show (0 : Int) ≤ (m : Int) by omega), if_neg (show ¬ ((v / 2 ^ m : Nat) : Int) = 0 by omega)]
      rfl
    · refine Ev.congr (fun k => ?_) hr
      rw [show (1 : Int) = ((1 : Nat) : Int) from rfl, p]
      rfl
theorem var_both {m : Nat} (hm : 1 ≤ m ∧ m ≤ 31) : ∀ (d : Nat) (l : List Int) (c v : Nat), v < 2 ^ d → d ≤ 64 → BW l c → c + 64 * d ≤ 1099511627000 →
    ∃ l' : List Int, ∃ c' : Nat, (c' ≤ c + 32 * (d + 1) ∧ BW l' c') ∧ Ev (fun k => spec_l6PutVar.l0 k (v : Int) ((m + 1 : Nat) : Int) l (c : Int)) (l', (c' : Int)) ∧ Ev (fun k => impl_Bits_putVar.l0 k (v : Int) ((m + 1 : Nat) : Int) l (c : Int)) (l', (c' : Int)) := by
  intro d
  induction d with
  | zero =>
    intro l c v h0 _ h hc
    have h64 : 2 ^ 0 ≤ 2 ^ 64 := two_pow_le (by omega)
    have hv : v < 18446744073709551616 := by omega
    have hz : v / 2 ^ m = 0 := by
      rw [show v = 0 by omega]
      simp
    exact ⟨_, _, ⟨by omega, BW_putN _ _ _ _ h⟩, (spec_var_round h (by omega) hv hm).1 hz, (impl_var_round h (by omega) hv hm).1 hz⟩
  | succ d ih =>
    intro l c v h0 hd h hc
    have h64 : 2 ^ (d + 1) ≤ 2 ^ 64 := two_pow_le (by omega)
    have hv : v < 18446744073709551616 := by omega
    by_cases hz : v / 2 ^ m = 0
    · exact ⟨_, _, ⟨by omega, BW_putN _ _ _ _ h⟩, (spec_var_round h (by omega) hv hm).1 hz, (impl_var_round h (by omega) hv hm).1 hz⟩
    · have hlt : v / 2 ^ m < 2 ^ d := by
        rw [Nat.div_lt_iff_lt_mul (Nat.pow_pos (by omega))]
        refine Nat.lt_of_lt_of_le h0 ?_
        rw [← Nat.pow_add]
        exact two_pow_le (by omega)
      obtain ⟨l', c', ⟨hc', hb'⟩, e1, e2⟩ := ih (putN (v % 2 ^ m + 1 * 2 ^ m) (m + 1) 0 l c) (c + (m + 1)) (v / 2 ^ m) hlt (by omega) (BW_putN _ _ _ _ h) (by omega)
      exact ⟨l', c', ⟨by omega, hb'⟩, (spec_var_round h (by omega) hv hm).2 hz _ e1, (impl_var_round h (by omega) hv hm).2 hz _ e2⟩
theorem putv_ev (l : List Int) (hB : ∀ y ∈ l, 0 ≤ y ∧ y < 256) (c : Int) (v : Nat) (n : Int) (hl : l.length ≤ 1048576) (hc : -9223372036854775808 ≤ c ∧ c ≤ 9223372036854775807) (hv : v < 18446744073709551616) :
    ∃ l' : List Int, ∃ c' : Nat, (c' ≤ 8390700 ∧ BW l' c') ∧ Ev (fun k => spec_PutVar.f k l c (v : Int) n) (l', (c' : Int)) ∧ Ev (fun k => impl_PutVar.f k l c (v : Int) n) (l', (c' : Int)) := by
  obtain ⟨hb, hm⟩ := start_BW (c := c) hB
  by_cases h1 : n < 2
  · refine ⟨startL l c, startC l c, ⟨by omega, hb⟩, ?_, ?_⟩
    · unfold spec_PutVar.f
      refine Ev.bind (spec_start_ev l c hl hc) ?_
      simp only [if_pos h1]
      exact Ev.now _
    · unfold impl_PutVar.f
      refine Ev.bind (impl_right_ev l c hl hc) ?_
      simp only [if_neg (show ¬ n ≥ 2 by omega)]
      exact Ev.now _
  by_cases h2 : n > 32
  · refine ⟨startL l c, startC l c, ⟨by omega, hb⟩, ?_, ?_⟩
    · unfold spec_PutVar.f
      refine Ev.bind (spec_start_ev l c hl hc) ?_
      simp only [if_neg h1, if_pos h2]
      exact Ev.now _
    · unfold impl_PutVar.f
      refine Ev.bind (impl_right_ev l c hl hc) ?_
      simp only [if_pos (show n ≥ 2 by omega), if_neg (show ¬ n ≤ 32 by omega)]
      exact Ev.now _
  obtain ⟨m, rfl⟩ : ∃ m : Nat, n = ((m + 1 : Nat) : Int) := ⟨(n - 1).toNat, by omega⟩
  obtain ⟨l', c', ⟨hc', hb'⟩, e1, e2⟩ := var_both (m := m) (by omega) 64 (startL l c) (startC l c) v hv (by omega) hb (by omega)
  refine ⟨l', c', ⟨by omega, hb'⟩, ?_, ?_⟩
  · unfold spec_PutVar.f
    refine Ev.bind (spec_start_ev l c hl hc) ?_
    simp only [if_neg h1, if_neg h2]
    unfold spec_l6PutVar.f
    exact Ev.bind e1 (Ev.now _)
  · unfold impl_PutVar.f
    refine Ev.bind (impl_right_ev l c hl hc) ?_
    simp only [if_pos (show ((m + 1 : Nat) : Int) ≥ 2 by omega), if_pos (show ((m + 1 : Nat) : Int) ≤ 32 by omega)]
    unfold impl_Bits_putVar.f
    exact e2

theorem FnExactPutVar : laws_FnExactPutVar.Pure := by
  intro l c v n hl hc hv hn
  have i64 : ∀ {x : Int}, (Lit.int .i64 x).wf = true → -9223372036854775808 ≤ x ∧ x ≤ 9223372036854775807 := by
    intro x h
    simp [Lit.wf, IntKind.min, IntKind.max, IntKind.signed, IntKind.bits] at h
    omega
  obtain ⟨hl, hy⟩ := hl
  simp only [maxLen] at hl
  have hB : ∀ y ∈ l, 0 ≤ y ∧ y < 256 := by
    intro y h
    have := hy y h
    simp [Lit.wf, IntKind.min, IntKind.max, IntKind.signed, IntKind.bits] at this
    omega
  obtain ⟨u, rfl, hu⟩ : ∃ u : Nat, v = (u : Int) ∧ u < 18446744073709551616 := by
    simp [Lit.wf, IntKind.min, IntKind.max, IntKind.signed, IntKind.bits] at hv
    exact ⟨v.toNat, by omega, by omega⟩
  unfold laws_FnExactPutVar.f laws_szBits.f
  rw [laws_szByteS_at l 1048576 hl (by omega) (by omega)]
  simp only [Option.bind_some]
  by_cases h : 1048576 - (l.length : Int) < 0
  · refine ⟨0, ?_⟩
    simp only [if_pos h]
    rfl
  simp only [if_neg h]
  simp only [Option.bind_some, if_neg h]
  obtain ⟨l', c', ⟨hc', hb'⟩, e1, e2⟩ := putv_ev l hB c u n (by omega) (i64 hc) hu
  have hl' : l'.length ≤ 1048900 := by
    have := hb'.2.1
    omega
  have tf : Ev (fun k => laws_toBits.f k l c) (l, c) := by
    unfold laws_toBits.f
    exact Ev.bind (laws_toByteS_ev l (by omega)) (Ev.now _)
  have eqB : ∀ (ys : List Int) (d : Int), ys.length ≤ 1048900 → Ev (fun k => laws_eqBits.f k ys d ys d) true := by
    intro ys d hs
    unfold laws_eqBits.f
    refine Ev.bind (laws_eqByteS_ev ys (by omega)) ?_
    simp only [if_true]
    exact Ev.now _
  have mk : ∀ (ys : List Int) (d : Int), ys.length ≤ 1048900 → Ev (fun k => laws_markBits.f k ys d 1) (1 + (ys.length : Int), laws_markByteS_s 1 ys.length) := by
    intro ys d hs
    unfold laws_markBits.f
    exact Ev.bind (laws_markByteS_ev ys 1 (by omega) (by omega) (by omega)) (Ev.now _)
  have hd : Ev (fun k => laws_heldBits.f k (laws_markByteS_s 1 l'.length) (c' : Int) 1) (1 + (l'.length : Int)) := by
    unfold laws_heldBits.f
    refine Ev.bind (laws_heldByteS_ev 1 l'.length (by omega) (by omega) (by omega)) ?_
    simp only [if_neg (show ¬ (1 + (l'.length : Int)) < 0 by omega)]
    exact Ev.now _
  refine Ev.rounds (Ev.bind tf (Ev.bind e1 (Ev.bind tf (Ev.bind e2 (Ev.bind (eqB l' c' hl') ?_)))))
  simp only [if_true]
  refine Ev.bind tf (Ev.bind (eqB l c (by omega)) ?_)
  simp only [if_true]
  refine Ev.bind (mk l c (by omega)) ?_
  simp only [if_neg (show ¬ (1 + (l.length : Int)) < 0 by omega)]
  refine Ev.bind (eqB l' c' hl') ?_
  refine Ev.step (fun k => by simp only [laws_FnExactPutVar.j0, Bool.not_true, Bool.false_eq_true, if_false]; rfl) (Ev.bind (mk l' c' hl') (Ev.bind hd ?_))
  simp only [if_neg (show ¬ (1 + (l'.length : Int)) < 0 by omega), if_true]
  refine Ev.bind tf (Ev.bind e2 (Ev.bind (eqB l' c' hl') ?_))
  simp only [if_true]
  refine Ev.bind hd ?_
  simp only [if_neg (show ¬ (1 + (l'.length : Int)) < 0 by omega), if_true]
  exact Ev.now _

end Go.Proofs.Ytcjdgimiobhhnaa.Pure
