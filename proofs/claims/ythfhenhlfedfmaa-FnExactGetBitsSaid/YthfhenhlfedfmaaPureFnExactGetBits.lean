/- Both programs read the same bits. -/
import Derived.Test.YthfhenhlfedfmaaOpenFnExactGetBits
import Derived.Test.YthfhenhlfedfmaaPlGen
namespace Go.Proofs.Ythfhenhlfedfmaa.Pure
open Go.RowKit Go.Proofs.Ythfhenhlfedfmaa.QFnExactGetBits Go.Proofs.Ythfhenhlfedfmaa.OpenFnExactGetBits Go.Proofs.YthfhenhlfedfmaaW.PrintWords Go.Proofs.YthfhenhlfedfmaaW.PrintLast Go.Proofs.YthfhenhlfedfmaaW.PrintMore Go.Proofs.Ythfhenhlfedfmaa.RowOpen Go.Proofs.Ythfhenhlfedfmaa.PlGen
set_option linter.unusedSimpArgs false
set_option linter.unusedVariables false
set_option maxHeartbeats 4000000

theorem laws_szByteS_at (l : List Int) (left : Int) (hl : l.length ≤ 9223372036854775807) (h0 : 0 ≤ left) (h1 : left ≤ 1048576) : laws_szByteS.f l left = some (if left - (l.length : Int) < 0 then -1 else left - l.length) := by
  unfold laws_szByteS.f
  rw [wrap64_id (by omega) (by omega)]
  split <;> rfl

theorem laws_toByteS_ev (l : List Int) (hl : l.length ≤ 1048576) : Ev (fun k => laws_toByteS.f k l) l := by
  have := copy_loop (fun k ys i => laws_toByteS.l0 k l ys i) l (fun x => x) (fun k ys => by simp only [laws_toByteS.l0]; rw [if_neg (by omega)])
    (fun i hi ys hy r h => by
      refine Ev.step (f := fun k => laws_toByteS.l0 k l (ys.set i l[i]) ((i + 1 : Nat) : Int)) (fun k => ?_) h
      simp only [laws_toByteS.l0]
      rw [if_pos (by omega), if_pos (by omega), if_pos (by omega), rd_at hi, wrap64_next hi (by omega)]
      rfl) (List.replicate ((l.length : Int)).toNat 0) (by simp)
  rw [List.map_id'] at this
  refine Ev.congr (fun k => ?_) this
  unfold laws_toByteS.f
  rw [if_pos (by omega), if_pos (by omega)]

theorem laws_eqByteS_ev (l : List Int) (hl : l.length ≤ 1099511627776) : Ev (fun k => laws_eqByteS.f k l l) true := by
  have := eq_loop (fun k i => laws_eqByteS.l0 k l l i) l.length (fun k => by simp only [laws_eqByteS.l0]; rw [if_neg (by omega)])
    (fun i hi h => by
      refine Ev.step (f := fun k => laws_eqByteS.l0 k l l ((i + 1 : Nat) : Int)) (fun k => ?_) h
      simp only [laws_eqByteS.l0]
      rw [if_pos (by omega), if_pos (by omega), if_pos (by omega), if_pos trivial, wrap64_next hi (by omega)])
  refine Ev.congr (fun k => ?_) this
  unfold laws_eqByteS.f
  rw [if_pos rfl]


/-! bits: which are well formed, and reading them -/
theorem u64w {n : Int} (h0 : 0 ≤ n) (h1 : n ≤ 9223372036854775807) : IntKind.u64.wrap n = n := by
  rw [show IntKind.u64.wrap n = n % 18446744073709551616 by simp [IntKind.wrap, IntKind.bits, IntKind.signed]]
  omega
/-- The bytes and the count belong together. -/
def okB (l : List Int) (c : Int) : Bool := decide (0 ≤ c ∧ c ≤ 8388608 ∧ (l.length : Int) = (c + 7) / 8 ∧ (c % 8 = 0 ∨ shr .u8 (rd l ((l.length : Int) - 1)) (c % 8) = 0))
theorem okB_c {l : List Int} {c : Int} (h : okB l c = true) : 0 ≤ c ∧ c ≤ 8388608 ∧ (l.length : Int) = (c + 7) / 8 := by
  simp only [okB, decide_eq_true_eq] at h
  omega
theorem tdiv_far {c : Int} (h0 : 9223372036854775800 < c) (h1 : c ≤ 9223372036854775807) : wrap64 (Int.tdiv (wrap64 (c + 7)) 8) < 0 := by
  have e : wrap64 (c + 7) = -(18446744073709551616 - (c + 7)) := by
    unfold wrap64
    omega
  rw [e, Int.neg_tdiv, Int.tdiv_eq_ediv_of_nonneg (by omega)]
  unfold wrap64
  omega
theorem tdiv_near {c : Int} (h0 : 0 ≤ c) (h1 : c ≤ 9223372036854775800) : wrap64 (Int.tdiv (wrap64 (c + 7)) 8) = (c + 7) / 8 := by
  rw [wrap64_id (x := c + 7) (by omega) (by omega), Int.tdiv_eq_ediv_of_nonneg (by omega), wrap64_id (by omega) (by omega)]

theorem spec_ok_at (l : List Int) (c : Int) (hl : l.length ≤ 1048576) (hc : -9223372036854775808 ≤ c ∧ c ≤ 9223372036854775807) (k : Nat) : spec_l6Ok.f (k + 1) l c = some (okB l c) := by
  have no : ¬ (0 ≤ c ∧ c ≤ 8388608 ∧ (l.length : Int) = (c + 7) / 8) → okB l c = false := by
    intro h
    simp only [okB, decide_eq_false_iff_not]
    omega
  unfold spec_l6Ok.f
  by_cases h1 : c < 0
  · rw [if_pos h1, no (by omega)]
    simp only [spec_l6Ok.j0, if_true]
  rw [if_neg h1]
  by_cases h2 : (l.length : Int) = wrap64 (Int.tdiv (wrap64 (c + 7)) 8)
  · rw [if_pos h2]
    have h3 : c ≤ 9223372036854775800 := by
      apply Decidable.byContradiction
      intro h
      have := tdiv_far (c := c) (by omega) (by omega)
      omega
    rw [tdiv_near (by omega) h3] at h2
    have h4 : (decide (c > 1099511627776)) = false := decide_eq_false (by omega)
    rw [h4]
    simp only [spec_l6Ok.j0, Bool.false_eq_true, if_false, Int.tmod_eq_emod_of_nonneg (show 0 ≤ c by omega)]
    by_cases h5 : c % 8 = 0
    · rw [if_pos h5]
      have : okB l c = true := by
        simp only [okB, decide_eq_true_eq]
        omega
      rw [this]
    rw [if_neg h5, wrap64_id (x := (l.length : Int) - 1) (by omega) (by omega), if_pos (by omega), if_pos (by omega), u64w (by omega) (by omega), if_pos (by omega)]
    by_cases h6 : shr .u8 (rd l ((l.length : Int) - 1)) (c % 8) = 0
    · rw [if_pos h6]
      have : okB l c = true := by
        simp only [okB, decide_eq_true_eq]
        exact ⟨by omega, by omega, h2, Or.inr h6⟩
      rw [this]
    · rw [if_neg h6]
      have : okB l c = false := by
        simp only [okB, decide_eq_false_iff_not]
        rintro ⟨_, _, _, h | h⟩
        · exact h5 h
        · exact h6 h
      rw [this]
  · rw [if_neg h2]
    have : okB l c = false := no (by
      rintro ⟨_, _, h⟩
      rw [tdiv_near (by omega) (by omega)] at h2
      exact h2 h)
    rw [this]
    simp only [spec_l6Ok.j0, if_true]

theorem impl_ok_at (l : List Int) (c : Int) (hl : l.length ≤ 1048576) (hc : -9223372036854775808 ≤ c ∧ c ≤ 9223372036854775807) (k : Nat) : impl_bitsOk.f (k + 1) l c = some (okB l c) := by
  have no : ¬ (0 ≤ c ∧ c ≤ 8388608 ∧ (l.length : Int) = (c + 7) / 8) → okB l c = false := by
    intro h
    simp only [okB, decide_eq_false_iff_not]
    omega
  unfold impl_bitsOk.f
  by_cases h1 : c < 0
  · rw [if_pos h1, no (by omega)]
    simp only [impl_bitsOk.j0, if_true]
  rw [if_neg h1]
  have e : wrap64 ((wrap64 (Int.tdiv c 8)) + (wrap64 (Int.tdiv (wrap64 ((Int.tmod c 8) + 7)) 8))) = c / 8 + (c % 8 + 7) / 8 := by
    rw [Int.tdiv_eq_ediv_of_nonneg (show 0 ≤ c by omega), Int.tmod_eq_emod_of_nonneg (show 0 ≤ c by omega), wrap64_id (x := c % 8 + 7) (by omega) (by omega), Int.tdiv_eq_ediv_of_nonneg (by omega), wrap64_id (x := c / 8) (by omega) (by omega), wrap64_id (x := (c % 8 + 7) / 8) (by omega) (by omega), wrap64_id (by omega) (by omega)]
  rw [e]
  by_cases h2 : (l.length : Int) = c / 8 + (c % 8 + 7) / 8
  · have h3 : ((l.length : Int) != c / 8 + (c % 8 + 7) / 8) = false := by
      rw [h2]
      exact bne_self_eq_false _
    rw [h3]
    simp only [impl_bitsOk.j0, Bool.false_eq_true, if_false, Int.tmod_eq_emod_of_nonneg (show 0 ≤ c by omega)]
    by_cases h5 : c % 8 = 0
    · rw [if_neg (by omega)]
      have : okB l c = true := by
        simp only [okB, decide_eq_true_eq]
        omega
      rw [this]
    rw [if_pos (by omega), wrap64_id (x := (l.length : Int) - 1) (by omega) (by omega), if_pos (by omega), if_pos (by omega), if_pos (by omega)]
    by_cases h6 : shr .u8 (rd l ((l.length : Int) - 1)) (c % 8) = 0
    · rw [if_pos h6]
      have : okB l c = true := by
        simp only [okB, decide_eq_true_eq]
        exact ⟨by omega, by omega, by omega, Or.inr h6⟩
      rw [this]
    · rw [if_neg h6]
      have : okB l c = false := by
        simp only [okB, decide_eq_false_iff_not]
        rintro ⟨_, _, _, h | h⟩
        · exact h5 h
        · exact h6 h
      rw [this]
  · have h3 : ((l.length : Int) != c / 8 + (c % 8 + 7) / 8) = true := bne_iff_ne.2 h2
    rw [h3, no (by omega)]
    simp only [impl_bitsOk.j0, if_true]

/-- Both readings walk the same bits. -/
theorem get_loops (l : List Int) (c at_ n : Int) (hl : (l.length : Int) = (c + 7) / 8) (hc : 0 ≤ c ∧ c ≤ 8388608) (ha : 0 ≤ at_) (hn : n ≤ 64) (hs : at_ + n ≤ c) :
    ∀ (d : Nat) (i v : Int), 0 ≤ i → i + d = n → ∃ v', Ev (fun k => spec_GetBits.l0 k at_ n v i l c) (true, v', wrap64 (at_ + n)) ∧ Ev (fun k => impl_Bits_get.l0 k at_ v n i l c) (v', c) := by
  intro d
  induction d with
  | zero =>
    intro i v h0 h
    refine ⟨v, Ev.step (f := fun _ => some (true, v, wrap64 (at_ + n))) (fun k => ?_) (Ev.now _), Ev.step (f := fun _ => some (v, c)) (fun k => ?_) (Ev.now _)⟩
    · simp only [spec_GetBits.l0]
      rw [if_neg (by omega)]
    · simp only [impl_Bits_get.l0]
      rw [if_neg (by omega)]
  | succ d ih =>
    intro i v h0 h
    obtain ⟨v', e1, e2⟩ := ih (i + 1) (Go.bits .or .u64 v (shl .u64 (IntKind.u64.wrap (Go.bits .and .u8 (shr .u8 (rd l ((at_ + i) / 8)) ((at_ + i) % 8)) 1)) i)) (by omega) (by omega)
    have a1 : wrap64 (at_ + i) = at_ + i := wrap64_id (by omega) (by omega)
    have a2 : Int.tdiv (at_ + i) 8 = (at_ + i) / 8 := Int.tdiv_eq_ediv_of_nonneg (by omega)
    have a3 : Int.tmod (at_ + i) 8 = (at_ + i) % 8 := Int.tmod_eq_emod_of_nonneg (by omega)
    have a4 : wrap64 ((at_ + i) / 8) = (at_ + i) / 8 := wrap64_id (by omega) (by omega)
    have a5 : wrap64 (i + 1) = i + 1 := wrap64_id (by omega) (by omega)
    have a6 : IntKind.u64.wrap ((at_ + i) % 8) = (at_ + i) % 8 := u64w (by omega) (by omega)
    have a7 : IntKind.u64.wrap i = i := u64w (by omega) (by omega)
    refine ⟨v', Ev.step (fun k => ?_) e1, Ev.step (fun k => ?_) e2⟩
    · simp only [spec_GetBits.l0, a1, a2, a3, a4, a5, a6, a7]
      rw [if_pos (by omega), if_pos (by omega), if_pos (by omega), if_pos (by omega), if_pos (by omega)]
    · simp only [impl_Bits_get.l0, a1, a2, a3, a4, a5]
      rw [if_pos (by omega), if_pos (by omega), if_pos (by omega), if_pos (by omega), if_pos (by omega)]
theorem get_ev (l : List Int) (c at_ n : Int) (hl : l.length ≤ 1048576) (hc : -9223372036854775808 ≤ c ∧ c ≤ 9223372036854775807) (ha : -9223372036854775808 ≤ at_ ∧ at_ ≤ 9223372036854775807) (hn : -9223372036854775808 ≤ n ∧ n ≤ 9223372036854775807) :
    ∃ r, Ev (fun k => spec_GetBits.f k l c at_ n) r ∧ Ev (fun k => impl_GetBits.f k l c at_ n) r := by
  have bad : Ev (fun k => spec_GetBits.j0 k at_ n true l c) (false, 0, 0) := Ev.step (f := fun _ => some (false, 0, 0)) (fun k => by simp only [spec_GetBits.j0, if_true]) (Ev.now _)
  have so : ∀ {r} (g : Nat → Bool → Option (Bool × Int × Int)), Ev (fun k => g k (okB l c)) r → Ev (fun k => (spec_l6Ok.f k l c).bind (g k)) r := fun g h => Ev.bind (Ev.step (fun k => spec_ok_at l c hl hc k) (Ev.now _)) h
  have io : ∀ {r} (g : Nat → Bool → Option (Bool × Int × Int)), Ev (fun k => g k (okB l c)) r → Ev (fun k => (impl_bitsOk.f k l c).bind (g k)) r := fun g h => Ev.bind (Ev.step (fun k => impl_ok_at l c hl hc k) (Ev.now _)) h
  have fin : ∀ r, Ev (fun k => spec_GetBits.f k l c at_ n) r → Ev (fun k => impl_GetBits.f k l c at_ n) r → ∃ r, Ev (fun k => spec_GetBits.f k l c at_ n) r ∧ Ev (fun k => impl_GetBits.f k l c at_ n) r := fun r a b => ⟨r, a, b⟩
  by_cases h0 : okB l c = true
  · by_cases h1 : n < 1
    · refine fin (false, 0, 0) ?_ ?_
      · unfold spec_GetBits.f
        refine so _ ?_
        simp only [h0, if_true, if_pos h1]
        exact bad
      · unfold impl_GetBits.f
        refine io _ ?_
        simp only [h0, if_true, if_pos h1]
        exact Ev.now _
    by_cases h2 : n > 64
    · refine fin (false, 0, 0) ?_ ?_
      · unfold spec_GetBits.f
        refine so _ ?_
        simp only [h0, if_true, if_neg h1, if_pos h2]
        exact bad
      · unfold impl_GetBits.f
        refine io _ ?_
        simp only [h0, if_true, if_neg h1, if_pos h2]
        exact Ev.now _
    by_cases h3 : at_ < 0
    · refine fin (false, 0, 0) ?_ ?_
      · unfold spec_GetBits.f
        refine so _ ?_
        simp only [h0, if_true, if_neg h1, if_neg h2, if_pos h3]
        exact bad
      · unfold impl_GetBits.f
        refine io _ ?_
        simp only [h0, if_true, if_neg h1, if_neg h2, if_pos h3]
        exact Ev.now _
    by_cases h4 : at_ > c
    · refine fin (false, 0, 0) ?_ ?_
      · unfold spec_GetBits.f
        refine so _ ?_
        simp only [h0, if_true, if_neg h1, if_neg h2, if_neg h3, if_pos h4]
        exact bad
      · unfold impl_GetBits.f
        refine io _ ?_
        simp only [h0, if_true, if_neg h1, if_neg h2, if_neg h3, if_pos h4]
        exact Ev.now _
    obtain ⟨b1, b2, b3⟩ := okB_c h0
    by_cases h5 : n > wrap64 (c - at_)
    · refine fin (false, 0, 0) ?_ ?_
      · unfold spec_GetBits.f
        refine so _ ?_
        simp only [h0, if_true, if_neg h1, if_neg h2, if_neg h3, if_neg h4, decide_eq_true h5]
        exact bad
      · unfold impl_GetBits.f
        refine io _ ?_
        simp only [h0, if_true, if_neg h1, if_neg h2, if_neg h3, if_neg h4, if_pos h5]
        exact Ev.now _
    have h6 := h5
    rw [wrap64_id (by omega) (by omega)] at h6
    obtain ⟨v, e1, e2⟩ := get_loops l c at_ n b3 ⟨b1, b2⟩ (by omega) (by omega) (by omega) n.toNat 0 0 (by omega) (by omega)
    refine fin (true, v, wrap64 (at_ + n)) ?_ ?_
    · unfold spec_GetBits.f
      refine so _ ?_
      simp only [h0, if_true, if_neg h1, if_neg h2, if_neg h3, if_neg h4, decide_eq_false h5]
      exact Ev.step (fun k => by simp only [spec_GetBits.j0, Bool.false_eq_true, if_false]) e1
    · unfold impl_GetBits.f
      refine io _ ?_
      simp only [h0, if_true, if_neg h1, if_neg h2, if_neg h3, if_neg h4, if_neg h5]
      refine Ev.bind (a := (v, c)) ?_ (Ev.now _)
      unfold impl_Bits_get.f
      exact e2
  · have h0' : okB l c = false := by simpa using h0
    refine fin (false, 0, 0) ?_ ?_
    · unfold spec_GetBits.f
      refine so _ ?_
      simp only [h0', Bool.false_eq_true, if_false]
      exact bad
    · unfold impl_GetBits.f
      refine io _ ?_
      simp only [h0', Bool.false_eq_true, if_false]
      exact Ev.now _

theorem FnExactGetBits : laws_FnExactGetBits.Pure := by
  intro l c at_ n hl hc ha hn
  have i64 : ∀ {x : Int}, (Lit.int .i64 x).wf = true → -9223372036854775808 ≤ x ∧ x ≤ 9223372036854775807 := by
    intro x h
    simp [Lit.wf, IntKind.min, IntKind.max, IntKind.signed, IntKind.bits] at h
    omega
  obtain ⟨hl, _⟩ := hl
  simp only [maxLen] at hl
  unfold laws_FnExactGetBits.f laws_szBits.f
  rw [laws_szByteS_at l 1048576 hl (by omega) (by omega)]
  simp only [Option.bind_some]
  by_cases h : 1048576 - (l.length : Int) < 0
  · refine ⟨0, ?_⟩
    simp only [if_pos h]
    rfl
  simp only [if_neg h]
  simp only [Option.bind_some, if_neg h]
  obtain ⟨r, e1, e2⟩ := get_ev l c at_ n (by omega) (i64 hc) (i64 ha) (i64 hn)
  have tf : Ev (fun k => laws_toBits.f k l c) (l, c) := by
    unfold laws_toBits.f
    exact Ev.bind (laws_toByteS_ev l (by omega)) (Ev.now _)
  refine Ev.rounds (Ev.bind tf (Ev.bind e1 (Ev.bind tf (Ev.bind e2 ?_))))
  have er : laws_eqBitResult.f r.1 r.2.1 r.2.2 r.1 r.2.1 r.2.2 = some true := by
    simp [laws_eqBitResult.f]
  rw [er]
  simp only [Option.bind_some, if_true]
  refine Ev.bind tf (Ev.bind (a := true) ?_ (Ev.now true))
  unfold laws_eqBits.f
  simp only [if_true]
  exact Ev.bind (laws_eqByteS_ev l (by omega)) (Ev.now true)

end Go.Proofs.Ythfhenhlfedfmaa.Pure
