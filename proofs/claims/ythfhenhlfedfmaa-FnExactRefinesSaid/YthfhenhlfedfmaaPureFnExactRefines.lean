/- At every pair of outcomes the program's Refines tells what the reference's tells, where the arguments are of at most 1048576 parts; larger ones are not asked. -/
import Derived.Test.YthfhenhlfedfmaaOpenFnExactRefines
import Derived.Test.YthfhenhlfedfmaaPlGen
namespace Go.Proofs.Ythfhenhlfedfmaa.Pure
open Go.RowKit Go.Proofs.Ythfhenhlfedfmaa.QFnExactRefines Go.Proofs.Ythfhenhlfedfmaa.OpenFnExactRefines Go.Proofs.YthfhenhlfedfmaaW.PrintWords Go.Proofs.YthfhenhlfedfmaaW.PrintLast Go.Proofs.YthfhenhlfedfmaaW.PrintMore Go.Proofs.Ythfhenhlfedfmaa.RowOpen Go.Proofs.Ythfhenhlfedfmaa.PlGen
set_option linter.unusedSimpArgs false
set_option linter.unusedVariables false
set_option maxHeartbeats 4000000

theorem laws_szUint64S_at (l : List Int) (left : Int) (hl : l.length ≤ 9223372036854775807) (h0 : 0 ≤ left) (h1 : left ≤ 1048576) : laws_szUint64S.f l left = some (if left - (l.length : Int) < 0 then -1 else left - l.length) := by
  unfold laws_szUint64S.f
  rw [wrap64_id (by omega) (by omega)]
  split <;> rfl

theorem laws_toUint64S_ev (l : List Int) (hl : l.length ≤ 1048576) : Ev (fun k => laws_toUint64S.f k l) l := by
  have := copy_loop (fun k ys i => laws_toUint64S.l0 k l ys i) l (fun x => x) (fun k ys => by simp only [laws_toUint64S.l0]; rw [if_neg (by omega)])
    (fun i hi ys hy r h => by
      refine Ev.step (f := fun k => laws_toUint64S.l0 k l (ys.set i l[i]) ((i + 1 : Nat) : Int)) (fun k => ?_) h
      simp only [laws_toUint64S.l0]
      rw [if_pos (by omega), if_pos (by omega), if_pos (by omega), rd_at hi, wrap64_next hi (by omega)]
      rfl) (List.replicate ((l.length : Int)).toNat 0) (by simp)
  rw [List.map_id'] at this
  refine Ev.congr (fun k => ?_) this
  unfold laws_toUint64S.f
  rw [if_pos (by omega), if_pos (by omega)]

theorem laws_eqUint64S_ev (l : List Int) (hl : l.length ≤ 1099511627776) : Ev (fun k => laws_eqUint64S.f k l l) true := by
  have := eq_loop (fun k i => laws_eqUint64S.l0 k l l i) l.length (fun k => by simp only [laws_eqUint64S.l0]; rw [if_neg (by omega)])
    (fun i hi h => by
      refine Ev.step (f := fun k => laws_eqUint64S.l0 k l l ((i + 1 : Nat) : Int)) (fun k => ?_) h
      simp only [laws_eqUint64S.l0]
      rw [if_pos (by omega), if_pos (by omega), if_pos (by omega), if_pos trivial, wrap64_next hi (by omega)])
  refine Ev.congr (fun k => ?_) this
  unfold laws_eqUint64S.f
  rw [if_pos rfl]


/-- Does b begin with a? -/
def preB : List Int → List Int → Bool
  | [], _ => true
  | _ :: _, [] => false
  | x :: xs, y :: ys => if x = y then preB xs ys else false
theorem preB_long : ∀ (a b : List Int), b.length < a.length → preB a b = false := by
  intro a
  induction a with
  | nil => intro b h; simp at h
  | cons x xs ih =>
    intro b h
    cases b with
    | nil => rfl
    | cons y ys =>
      unfold preB
      split
      · exact ih ys (by simpa using h)
      · rfl
theorem beg_spec (a b : List Int) (ha : a.length ≤ 1099511627776) : Ev (fun k => spec_l7Begins.f k a b) (preB a b) := by
  by_cases hc : (a.length : Int) > (b.length : Int)
  · rw [preB_long a b (by omega)]
    refine Ev.congr (fun k => ?_) (Ev.now false)
    unfold spec_l7Begins.f
    rw [if_pos hc]
  have main : ∀ (d i : Nat), i + d = a.length → Ev (fun k => spec_l7Begins.l0 k a b (i : Int)) (preB (a.drop i) (b.drop i)) := by
    intro d
    induction d with
    | zero =>
      intro i hi
      rw [List.drop_eq_nil_of_le (show a.length ≤ i by omega)]
      refine Ev.step (f := fun _ => some true) (fun k => ?_) (Ev.now _)
      simp only [spec_l7Begins.l0]
      rw [if_neg (by omega)]
    | succ d ih =>
      intro i hi
      have h1 : i < a.length := by omega
      have h2 : i < b.length := by omega
      rw [List.drop_eq_getElem_cons h1, List.drop_eq_getElem_cons h2]
      unfold preB
      by_cases e : a[i] = b[i]
      · rw [if_pos e]
        refine Ev.step (fun k => ?_) (ih (i + 1) (by omega))
        simp only [spec_l7Begins.l0]
        rw [if_pos (by omega), if_pos (by omega), if_pos (by omega), rd_at h1, rd_at h2, if_pos e, wrap64_next h1 (by omega)]
      · rw [if_neg e]
        refine Ev.step (f := fun _ => some false) (fun k => ?_) (Ev.now _)
        simp only [spec_l7Begins.l0]
        rw [if_pos (by omega), if_pos (by omega), if_pos (by omega), rd_at h1, rd_at h2, if_neg e]
  refine Ev.congr (fun k => ?_) (main a.length 0 (by omega))
  unfold spec_l7Begins.f
  rw [if_neg hc]
  rfl
theorem beg_impl (a b : List Int) (ha : a.length ≤ 1099511627776) : Ev (fun k => impl_beginning.f k a b) (preB a b) := by
  by_cases hc : (a.length : Int) > (b.length : Int)
  · rw [preB_long a b (by omega)]
    refine Ev.congr (fun k => ?_) (Ev.now false)
    unfold impl_beginning.f
    rw [if_pos hc]
  have main : ∀ (d i : Nat), i + d = a.length → Ev (fun k => impl_beginning.l0 k a b (a.length : Int) (i : Int)) (preB (a.drop i) (b.drop i)) := by
    intro d
    induction d with
    | zero =>
      intro i hi
      rw [List.drop_eq_nil_of_le (show a.length ≤ i by omega)]
      refine Ev.step (f := fun _ => some true) (fun k => ?_) (Ev.now _)
      simp only [impl_beginning.l0]
      rw [if_neg (by omega)]
    | succ d ih =>
      intro i hi
      have h1 : i < a.length := by omega
      have h2 : i < b.length := by omega
      rw [List.drop_eq_getElem_cons h1, List.drop_eq_getElem_cons h2]
      unfold preB
      by_cases e : a[i] = b[i]
      · rw [if_pos e]
        refine Ev.step (fun k => ?_) (ih (i + 1) (by omega))
        simp only [impl_beginning.l0]
        rw [if_pos (by omega), if_pos (by omega), if_pos (by omega), if_pos (by omega), rd_at h1, rd_at h2, if_pos e, wrap64_next h1 (by omega)]
      · rw [if_neg e]
        refine Ev.step (f := fun _ => some false) (fun k => ?_) (Ev.now _)
        simp only [impl_beginning.l0]
        rw [if_pos (by omega), if_pos (by omega), if_pos (by omega), if_pos (by omega), rd_at h1, rd_at h2, if_neg e]
  refine Ev.congr (fun k => ?_) (main a.length 0 (by omega))
  unfold impl_beginning.f
  rw [if_neg hc]
  rfl
/-- The last part: the same end, the same prints, and a value that may stand for another. -/
def tailR (e : Int) (p : Bool) (o w : Int) (l : List Int) (e' : Int) (p' : Bool) (o' w' : Int) (l' : List Int) : Bool :=
  if e = e' then (if (l.length : Int) = (l'.length : Int) then (if preB l l' = true then (if p = true then true else if o = 0 then (p == p' && (o == o' && (w == w'))) else true) else false) else false) else false
def refR (e : Int) (p : Bool) (o w : Int) (l : List Int) (e' : Int) (p' : Bool) (o' w' : Int) (l' : List Int) : Bool :=
  if e = 7 then true else if 2 ≤ e ∧ e ≤ 6 then (if preB l l' = true then true else preB l' l) else tailR e p o w l e' p' o' w' l'
theorem ref_spec (e : Int) (p : Bool) (o w : Int) (l : List Int) (st : Int) (e' : Int) (p' : Bool) (o' w' : Int) (l' : List Int) (st' : Int) (h : l.length ≤ 1099511627776) (h' : l'.length ≤ 1099511627776) :
    Ev (fun k => spec_Refines.f k e p o w l st e' p' o' w' l' st') (refR e p o w l e' p' o' w' l') := by
  have jt : Ev (fun k => spec_Refines.j0 k true e p o w l st e' p' o' w' l' st') (if preB l l' = true then true else preB l' l) := by
    refine Ev.step (fun k => by simp only [spec_Refines.j0, if_true]; rfl) (Ev.bind (beg_spec l l' h) ?_)
    cases preB l l' with
    | true =>
      simp only [if_true]
      exact Ev.now true
    | false =>
      simp only [Bool.false_eq_true, if_false]
      exact Ev.bind (beg_spec l' l h') (Ev.now _)
  have jf : Ev (fun k => spec_Refines.j0 k false e p o w l st e' p' o' w' l' st') (tailR e p o w l e' p' o' w' l') := by
    refine Ev.step (fun k => by simp only [spec_Refines.j0, Bool.false_eq_true, if_false]; rfl) ?_
    unfold tailR
    by_cases c1 : e = e'
    · simp only [if_pos c1]
      by_cases c2 : (l.length : Int) = (l'.length : Int)
      · simp only [if_pos c2]
        refine Ev.bind (beg_spec l l' h) ?_
        cases preB l l' with
        | true =>
          simp only [if_true]
          refine Ev.congr (fun k => ?_) (Ev.now _)
          repeat' split
          all_goals rfl
        | false =>
          simp only [Bool.false_eq_true, if_false]
          exact Ev.now _
      · simp only [if_neg c2]
        exact Ev.now _
    · simp only [if_neg c1]
      exact Ev.now _
  unfold refR
  by_cases c7 : e = 7
  · rw [if_pos c7]
    refine Ev.congr (fun k => ?_) (Ev.now true)
    unfold spec_Refines.f
    rw [if_pos c7]
  rw [if_neg c7]
  by_cases c2 : e = 2
  · rw [if_pos (by omega)]
    refine Ev.congr (fun k => ?_) jt
    unfold spec_Refines.f
    rw [if_neg c7, if_pos c2]
  by_cases c3 : e ≥ 3
  · by_cases c6 : e ≤ 6
    · rw [if_pos (by omega)]
      refine Ev.congr (fun k => ?_) jt
      unfold spec_Refines.f
      rw [if_neg c7, if_neg c2, if_pos c3, decide_eq_true c6]
    · rw [if_neg (by omega)]
      refine Ev.congr (fun k => ?_) jf
      unfold spec_Refines.f
      rw [if_neg c7, if_neg c2, if_pos c3, decide_eq_false c6]
  · rw [if_neg (by omega)]
    refine Ev.congr (fun k => ?_) jf
    unfold spec_Refines.f
    rw [if_neg c7, if_neg c2, if_neg c3]
theorem ref_impl (e : Int) (p : Bool) (o w : Int) (l : List Int) (st : Int) (e' : Int) (p' : Bool) (o' w' : Int) (l' : List Int) (st' : Int) (h : l.length ≤ 1099511627776) (h' : l'.length ≤ 1099511627776) :
    Ev (fun k => impl_Refines.f k e p o w l st e' p' o' w' l' st') (refR e p o w l e' p' o' w' l') := by
  have tl : Ev (fun k => if e = e' then (if (l.length : Int) = (l'.length : Int) then ((impl_beginning.f k l l').bind fun t108 => (if t108 = true then (if p = true then (some true) else (if o = 0 then (some (p == p' && (o == o' && (w == w')))) else (some true))) else (some false))) else (some false)) else (some false)) (tailR e p o w l e' p' o' w' l') := by
    unfold tailR
    by_cases c1 : e = e'
    · simp only [if_pos c1]
      by_cases c2 : (l.length : Int) = (l'.length : Int)
      · simp only [if_pos c2]
        refine Ev.bind (beg_impl l l' h) ?_
        cases preB l l' with
        | true =>
          simp only [if_true]
          refine Ev.congr (fun k => ?_) (Ev.now _)
          repeat' split
          all_goals rfl
        | false =>
          simp only [Bool.false_eq_true, if_false]
          exact Ev.now _
      · simp only [if_neg c2]
        exact Ev.now _
    · simp only [if_neg c1]
      exact Ev.now _
  have jt : Ev (fun k => impl_Refines.j0 k true e p o w l st e' p' o' w' l' st') (if preB l l' = true then true else preB l' l) := by
    refine Ev.step (fun k => by simp only [impl_Refines.j0, if_true]; rfl) (Ev.bind (beg_impl l l' h) ?_)
    cases hp : preB l l' with
    | true =>
      simp only [if_true]
      exact Ev.now true
    | false =>
      simp only [Bool.false_eq_true, if_false]
      refine Ev.bind (beg_impl l' l h') ?_
      cases preB l' l with
      | true =>
        simp only [if_true]
        exact Ev.now true
      | false =>
        simp only [Bool.false_eq_true, if_false]
        have : tailR e p o w l e' p' o' w' l' = false := by
          unfold tailR
          rw [hp]
          simp
        have tl' := tl
        rw [this] at tl'
        exact tl'
  have jf : Ev (fun k => impl_Refines.j0 k false e p o w l st e' p' o' w' l' st') (tailR e p o w l e' p' o' w' l') :=
    Ev.step (fun k => by simp only [impl_Refines.j0, Bool.false_eq_true, if_false]) tl
  unfold refR
  by_cases c7 : e = 7
  · rw [if_pos c7]
    refine Ev.congr (fun k => ?_) (Ev.now true)
    unfold impl_Refines.f
    rw [if_pos c7]
  rw [if_neg c7]
  by_cases c : 2 ≤ e ∧ e ≤ 6
  · rw [if_pos c]
    refine Ev.congr (fun k => ?_) jt
    have hc : e = 2 ∨ e = 3 ∨ e = 4 ∨ e = 5 ∨ e = 6 := by omega
    unfold impl_Refines.f
    rcases hc with rfl | rfl | rfl | rfl | rfl
    all_goals rfl
  · rw [if_neg c]
    refine Ev.congr (fun k => ?_) jf
    unfold impl_Refines.f
    rw [if_neg c7, if_neg (by omega), if_neg (by omega), if_neg (by omega), if_neg (by omega), show (e == 6) = false by rw [beq_eq_false_iff_ne]; omega]

theorem FnExactRefines : laws_FnExactRefines.Pure := by
  intro e p o w l st e' p' o' w' l' st' _ _ _ hl _ _ _ _ hl' _
  obtain ⟨hl, _⟩ := hl
  obtain ⟨hl', _⟩ := hl'
  simp only [maxLen] at hl hl'
  have sz : ∀ (left : Int) (e : Int) (p : Bool) (o w : Int) (l : List Int) (st : Int), l.length ≤ 9223372036854775807 → 0 ≤ left → left ≤ 1048576 → ∃ r, laws_szOutcome.f e p o w l st left = some r ∧ (0 ≤ r → l.length ≤ 1048576 ∧ r ≤ 1048576) := by
    intro left e p o w l st hl h0 h1
    unfold laws_szOutcome.f
    rw [laws_szUint64S_at _ _ hl h0 h1]
    simp only [Option.bind_some]
    by_cases c2 : left - (l.length : Int) < 0
    · rw [if_pos c2, if_pos (by omega)]
      exact ⟨-1, rfl, fun h => by omega⟩
    · rw [if_neg c2, if_neg c2]
      exact ⟨_, rfl, fun _ => by omega⟩
  obtain ⟨r1, h1, b1⟩ := sz 1048576 e p o w l st hl (by omega) (by omega)
  unfold laws_FnExactRefines.f
  rw [h1]
  simp only [Option.bind_some]
  by_cases n1 : r1 < 0
  · exact ⟨0, if_pos n1⟩
  obtain ⟨g1, g2⟩ := b1 (by omega)
  obtain ⟨r2, h2, b2⟩ := sz r1 e' p' o' w' l' st' hl' (by omega) g2
  simp only [if_neg n1]
  rw [h2]
  simp only [Option.bind_some]
  by_cases n2 : r2 < 0
  · exact ⟨0, if_pos n2⟩
  obtain ⟨g3, _⟩ := b2 (by omega)
  simp only [if_neg n2]
  have tf : Ev (fun k => laws_toOutcome.f k e p o w l st) (e, p, o, w, l, st) := by
    unfold laws_toOutcome.f laws_toValue.f
    simp only [Option.bind_some]
    exact Ev.bind (laws_toUint64S_ev l g1) (Ev.now _)
  have tf' : Ev (fun k => laws_toOutcome.f k e' p' o' w' l' st') (e', p', o', w', l', st') := by
    unfold laws_toOutcome.f laws_toValue.f
    simp only [Option.bind_some]
    exact Ev.bind (laws_toUint64S_ev l' g3) (Ev.now _)
  have eqo : ∀ (e : Int) (p : Bool) (o w : Int) (l : List Int) (st : Int), l.length ≤ 1048576 → Ev (fun k => laws_eqOutcome.f k e p o w l st e p o w l st) true := by
    intro e p o w l st hl
    unfold laws_eqOutcome.f laws_eqValue.f
    simp only [if_true, bne_self_eq_false, Bool.false_eq_true, if_false, Option.bind_some]
    exact Ev.bind (laws_eqUint64S_ev l (by omega)) (Ev.now _)
  refine Ev.rounds (Ev.bind tf (Ev.bind tf' (Ev.bind (ref_spec e p o w l st e' p' o' w' l' st' (by omega) (by omega)) (Ev.bind tf (Ev.bind tf' (Ev.bind (ref_impl e p o w l st e' p' o' w' l' st' (by omega) (by omega)) ?_))))))
  simp only [bne_self_eq_false, Bool.false_eq_true, if_false]
  refine Ev.bind tf (Ev.bind (eqo e p o w l st g1) ?_)
  simp only [if_true]
  refine Ev.bind tf' (Ev.bind (eqo e' p' o' w' l' st' g3) ?_)
  simp only [if_true]
  exact Ev.now true

end Go.Proofs.Ythfhenhlfedfmaa.Pure
