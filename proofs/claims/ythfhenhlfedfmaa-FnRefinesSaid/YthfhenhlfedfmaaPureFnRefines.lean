/- FnRefines's plain law: an outcome stands for itself, one that stands for a defined one stands for what that stands for, and one with other prints or another value does not stand for it; conditions: the bounds of the bytes that come in -/
import Derived.Test.YthfhenhlfedfmaaQFnRefinesx7
import Derived.Test.YthfhenhlfedfmaaPlGen
namespace Go.Proofs.Ythfhenhlfedfmaa.Pure
open Go.RowKit Go.Proofs.Ythfhenhlfedfmaa.QFnRefines Go.Proofs.YthfhenhlfedfmaaW.PrintWords Go.Proofs.YthfhenhlfedfmaaW.PrintLast Go.Proofs.Ythfhenhlfedfmaa.PlGen
set_option linter.unusedSimpArgs false
set_option linter.unusedVariables false
set_option linter.unusedSectionVars false
set_option maxHeartbeats 4000000

/-- Does b begin with a? -/
def preB : List Int → List Int → Bool
  | [], _ => true
  | _ :: _, [] => false
  | x :: xs, y :: ys => if x = y then preB xs ys else false
theorem preB_long : ∀ (a b : List Int), b.length < a.length → preB a b = false := by
  intro a
  induction a with
  | nil => intro b h; simp at h
  | cons x xs ih =>
    intro b h
    cases b with
    | nil => rfl
    | cons y ys =>
      unfold preB
      split
      · exact ih ys (by simpa using h)
      · rfl
theorem beg_spec (a b : List Int) (ha : a.length ≤ 1099511627776) : Ev (fun k => spec_l7Begins.f k a b) (preB a b) := by
  by_cases hc : (a.length : Int) > (b.length : Int)
  · rw [preB_long a b (by omega)]
    refine Ev.congr (fun k => ?_) (Ev.now false)
    unfold spec_l7Begins.f
    rw [if_pos hc]
  have main : ∀ (d i : Nat), i + d = a.length → Ev (fun k => spec_l7Begins.l0 k a b (i : Int)) (preB (a.drop i) (b.drop i)) := by
    intro d
    induction d with
    | zero =>
      intro i hi
      rw [List.drop_eq_nil_of_le (show a.length ≤ i by omega)]
      refine Ev.step (f := fun _ => some true) (fun k => ?_) (Ev.now _)
      simp only [spec_l7Begins.l0]
      rw [if_neg (by omega)]
    | succ d ih =>
      intro i hi
      have h1 : i < a.length := by omega
      have h2 : i < b.length := by omega
      rw [List.drop_eq_getElem_cons h1, List.drop_eq_getElem_cons h2]
      unfold preB
      by_cases e : a[i] = b[i]
      · rw [if_pos e]
        refine Ev.step (fun k => ?_) (ih (i + 1) (by omega))
        simp only [spec_l7Begins.l0]
        rw [if_pos (by omega), if_pos (by omega), if_pos (by omega), rd_at h1, rd_at h2, if_pos e, wrap64_next h1 (by omega)]
      · rw [if_neg e]
        refine Ev.step (f := fun _ => some false) (fun k => ?_) (Ev.now _)
        simp only [spec_l7Begins.l0]
        rw [if_pos (by omega), if_pos (by omega), if_pos (by omega), rd_at h1, rd_at h2, if_neg e]
  refine Ev.congr (fun k => ?_) (main a.length 0 (by omega))
  unfold spec_l7Begins.f
  rw [if_neg hc]
  rfl
theorem beg_impl (a b : List Int) (ha : a.length ≤ 1099511627776) : Ev (fun k => impl_beginning.f k a b) (preB a b) := by
  by_cases hc : (a.length : Int) > (b.length : Int)
  · rw [preB_long a b (by omega)]
    refine Ev.congr (fun k => ?_) (Ev.now false)
    unfold impl_beginning.f
    rw [if_pos hc]
  have main : ∀ (d i : Nat), i + d = a.length → Ev (fun k => impl_beginning.l0 k a b (a.length : Int) (i : Int)) (preB (a.drop i) (b.drop i)) := by
    intro d
    induction d with
    | zero =>
      intro i hi
      rw [List.drop_eq_nil_of_le (show a.length ≤ i by omega)]
      refine Ev.step (f := fun _ => some true) (fun k => ?_) (Ev.now _)
      simp only [impl_beginning.l0]
      rw [if_neg (by omega)]
    | succ d ih =>
      intro i hi
      have h1 : i < a.length := by omega
      have h2 : i < b.length := by omega
      rw [List.drop_eq_getElem_cons h1, List.drop_eq_getElem_cons h2]
      unfold preB
      by_cases e : a[i] = b[i]
      · rw [if_pos e]
        refine Ev.step (fun k => ?_) (ih (i + 1) (by omega))
        simp only [impl_beginning.l0]
        rw [if_pos (by omega), if_pos (by omega), if_pos (by omega), if_pos (by omega), rd_at h1, rd_at h2, if_pos e, wrap64_next h1 (by omega)]
      · rw [if_neg e]
        refine Ev.step (f := fun _ => some false) (fun k => ?_) (Ev.now _)
        simp only [impl_beginning.l0]
        rw [if_pos (by omega), if_pos (by omega), if_pos (by omega), if_pos (by omega), rd_at h1, rd_at h2, if_neg e]
  refine Ev.congr (fun k => ?_) (main a.length 0 (by omega))
  unfold impl_beginning.f
  rw [if_neg hc]
  rfl
/-- The last part: the same end, the same prints, and a value that may stand for another. -/
def tailR (e : Int) (p : Bool) (o w : Int) (l : List Int) (e' : Int) (p' : Bool) (o' w' : Int) (l' : List Int) : Bool :=
  if e = e' then (if (l.length : Int) = (l'.length : Int) then (if preB l l' = true then (if p = true then true else if o = 0 then (p == p' && (o == o' && (w == w'))) else true) else false) else false) else false
def refR (e : Int) (p : Bool) (o w : Int) (l : List Int) (e' : Int) (p' : Bool) (o' w' : Int) (l' : List Int) : Bool :=
  if e = 7 then true else if 2 ≤ e ∧ e ≤ 6 then (if preB l l' = true then true else preB l' l) else tailR e p o w l e' p' o' w' l'
theorem ref_spec (e : Int) (p : Bool) (o w : Int) (l : List Int) (st : Int) (e' : Int) (p' : Bool) (o' w' : Int) (l' : List Int) (st' : Int) (h : l.length ≤ 1099511627776) (h' : l'.length ≤ 1099511627776) :
    Ev (fun k => spec_Refines.f k e p o w l st e' p' o' w' l' st') (refR e p o w l e' p' o' w' l') := by
  have jt : Ev (fun k => spec_Refines.j0 k true e p o w l st e' p' o' w' l' st') (if preB l l' = true then true else preB l' l) := by
    refine Ev.step (fun k => by simp only [spec_Refines.j0, if_true]; rfl) (Ev.bind (beg_spec l l' h) ?_)
    cases preB l l' with
    | true =>
      simp only [if_true]
      exact Ev.now true
    | false =>
      simp only [Bool.false_eq_true, if_false]
      exact Ev.bind (beg_spec l' l h') (Ev.now _)
  have jf : Ev (fun k => spec_Refines.j0 k false e p o w l st e' p' o' w' l' st') (tailR e p o w l e' p' o' w' l') := by
    refine Ev.step (fun k => by simp only [spec_Refines.j0, Bool.false_eq_true, if_false]; rfl) ?_
    unfold tailR
    by_cases c1 : e = e'
    · simp only [if_pos c1]
      by_cases c2 : (l.length : Int) = (l'.length : Int)
      · simp only [if_pos c2]
        refine Ev.bind (beg_spec l l' h) ?_
        cases preB l l' with
        | true =>
          simp only [if_true]
          refine Ev.congr (fun k => ?_) (Ev.now _)
          repeat' split
          all_goals rfl
        | false =>
          simp only [Bool.false_eq_true, if_false]
          exact Ev.now _
      · simp only [if_neg c2]
        exact Ev.now _
    · simp only [if_neg c1]
      exact Ev.now _
  unfold refR
  by_cases c7 : e = 7
  · rw [if_pos c7]
    refine Ev.congr (fun k => ?_) (Ev.now true)
    unfold spec_Refines.f
    rw [if_pos c7]
  rw [if_neg c7]
  by_cases c2 : e = 2
  · rw [if_pos (by omega)]
    refine Ev.congr (fun k => ?_) jt
    unfold spec_Refines.f
    rw [if_neg c7, if_pos c2]
  by_cases c3 : e ≥ 3
  · by_cases c6 : e ≤ 6
    · rw [if_pos (by omega)]
      refine Ev.congr (fun k => ?_) jt
      unfold spec_Refines.f
      rw [if_neg c7, if_neg c2, if_pos c3, decide_eq_true c6]
    · rw [if_neg (by omega)]
      refine Ev.congr (fun k => ?_) jf
      unfold spec_Refines.f
      rw [if_neg c7, if_neg c2, if_pos c3, decide_eq_false c6]
  · rw [if_neg (by omega)]
    refine Ev.congr (fun k => ?_) jf
    unfold spec_Refines.f
    rw [if_neg c7, if_neg c2, if_neg c3]
theorem ref_impl (e : Int) (p : Bool) (o w : Int) (l : List Int) (st : Int) (e' : Int) (p' : Bool) (o' w' : Int) (l' : List Int) (st' : Int) (h : l.length ≤ 1099511627776) (h' : l'.length ≤ 1099511627776) :
    Ev (fun k => impl_Refines.f k e p o w l st e' p' o' w' l' st') (refR e p o w l e' p' o' w' l') := by
  have tl : Ev (fun k => if e = e' then (if (l.length : Int) = (l'.length : Int) then ((impl_beginning.f k l l').bind fun t108 => (if t108 = true then (if p = true then (some true) else (if o = 0 then (some (p == p' && (o == o' && (w == w')))) else (some true))) else (some false))) else (some false)) else (some false)) (tailR e p o w l e' p' o' w' l') := by
    unfold tailR
    by_cases c1 : e = e'
    · simp only [if_pos c1]
      by_cases c2 : (l.length : Int) = (l'.length : Int)
      · simp only [if_pos c2]
        refine Ev.bind (beg_impl l l' h) ?_
        cases preB l l' with
        | true =>
          simp only [if_true]
          refine Ev.congr (fun k => ?_) (Ev.now _)
          repeat' split
          all_goals rfl
        | false =>
          simp only [Bool.false_eq_true, if_false]
          exact Ev.now _
      · simp only [if_neg c2]
        exact Ev.now _
    · simp only [if_neg c1]
      exact Ev.now _
  have jt : Ev (fun k => impl_Refines.j0 k true e p o w l st e' p' o' w' l' st') (if preB l l' = true then true else preB l' l) := by
    refine Ev.step (fun k => by simp only [impl_Refines.j0, if_true]; rfl) (Ev.bind (beg_impl l l' h) ?_)
    cases hp : preB l l' with
    | true =>
      simp only [if_true]
      exact Ev.now true
    | false =>
      simp only [Bool.false_eq_true, if_false]
      refine Ev.bind (beg_impl l' l h') ?_
      cases preB l' l with
      | true =>
        simp only [if_true]
        exact Ev.now true
      | false =>
        simp only [Bool.false_eq_true, if_false]
        have : tailR e p o w l e' p' o' w' l' = false := by
          unfold tailR
          rw [hp]
          simp
        have tl' := tl
        rw [this] at tl'
        exact tl'
  have jf : Ev (fun k => impl_Refines.j0 k false e p o w l st e' p' o' w' l' st') (tailR e p o w l e' p' o' w' l') :=
    Ev.step (fun k => by simp only [impl_Refines.j0, Bool.false_eq_true, if_false]) tl
  unfold refR
  by_cases c7 : e = 7
  · rw [if_pos c7]
    refine Ev.congr (fun k => ?_) (Ev.now true)
    unfold impl_Refines.f
    rw [if_pos c7]
  rw [if_neg c7]
  by_cases c : 2 ≤ e ∧ e ≤ 6
  · rw [if_pos c]
    refine Ev.congr (fun k => ?_) jt
    have hc : e = 2 ∨ e = 3 ∨ e = 4 ∨ e = 5 ∨ e = 6 := by omega
    unfold impl_Refines.f
    rcases hc with rfl | rfl | rfl | rfl | rfl
    all_goals rfl
  · rw [if_neg c]
    refine Ev.congr (fun k => ?_) jf
    unfold impl_Refines.f
    rw [if_neg c7, if_neg (by omega), if_neg (by omega), if_neg (by omega), if_neg (by omega), show (e == 6) = false by rw [beq_eq_false_iff_ne]; omega]

theorem rd_byteN {l : List Int} (h : ∀ y ∈ l, 0 ≤ y ∧ y < 256) (i : Int) : 0 ≤ rd l i ∧ rd l i < 256 := by
  unfold rd
  rw [List.getD_eq_getElem?_getD]
  by_cases hi : i.toNat < l.length
  · rw [List.getElem?_eq_getElem hi]
    exact h _ (List.getElem_mem hi)
  · rw [List.getElem?_eq_none (by omega)]
    decide
/-- The next number drawn: below n, and one place on. -/
theorem next_ok (l : List Int) (hB : ∀ y ∈ l, 0 ≤ y ∧ y < 256) (hl : l.length ≤ 1048576) (s : Nat) (s2 n : Int) (hs : s ≤ 100000) (hn : 1 ≤ n ∧ n ≤ 200) : ∃ r : Int, spec_l1Next.f l (s : Int) s2 n = some (r, ((s + 1 : Nat) : Int), s2) ∧ 0 ≤ r ∧ r < n := by
  have e1 : wrap64 ((s : Int) + 1) = ((s + 1 : Nat) : Int) := by rw [wrap64_id (by omega) (by omega)]; omega
  have e2 : wrap64 (((s + 1 : Nat) : Int) - 1) = (s : Int) := by rw [wrap64_id (by omega) (by omega)]; omega
  have md : ∀ x : Int, 0 ≤ x → 0 ≤ Int.tmod x n ∧ Int.tmod x n < n := by
    intro x hx
    rw [Int.tmod_eq_emod_of_nonneg hx]
    exact ⟨Int.emod_nonneg x (by omega), Int.emod_lt_of_pos x (by omega)⟩
  unfold spec_l1Next.f
  rw [if_neg (by omega), e1, e2]
  by_cases h0 : (l.length : Int) = 0
  · rw [if_pos h0, if_neg (by omega), wrap64_id (x := (s : Int) * 7) (by omega) (by omega)]
    exact ⟨_, rfl, md _ (by omega)⟩
  rw [if_neg h0]
  have i1 : 0 ≤ Int.tmod (s : Int) (l.length : Int) ∧ Int.tmod (s : Int) (l.length : Int) < (l.length : Int) := by
    rw [Int.tmod_eq_emod_of_nonneg (by omega)]
    exact ⟨Int.emod_nonneg _ h0, Int.emod_lt_of_pos _ (by omega)⟩
  have x1 := rd_byteN hB (Int.tmod (s : Int) (l.length : Int))
  have d1 : 0 ≤ Int.tdiv (s : Int) (l.length : Int) ∧ Int.tdiv (s : Int) (l.length : Int) ≤ 100000 := by
    rw [Int.tdiv_eq_ediv_of_nonneg (by omega)]
    refine ⟨Int.ediv_nonneg (by omega) (by omega), ?_⟩
    have := Int.ediv_le_self (a := (s : Int)) (l.length : Int) (by omega)
    omega
  rw [if_pos i1.1, if_pos i1.2, if_neg (by omega), if_neg (by omega), wrap64_id (x := rd l (Int.tmod (s : Int) (l.length : Int))) (by omega) (by omega), wrap64_id (x := Int.tdiv (s : Int) (l.length : Int)) (by omega) (by omega), wrap64_id (x := Int.tdiv (s : Int) (l.length : Int) * 37) (by omega) (by omega), wrap64_id (x := rd l (Int.tmod (s : Int) (l.length : Int)) + Int.tdiv (s : Int) (l.length : Int) * 37) (by omega) (by omega)]
  exact ⟨_, rfl, md _ (by omega)⟩
/-- An outcome drawn: at most three prints. -/
theorem out_ok (l : List Int) (hB : ∀ y ∈ l, 0 ≤ y ∧ y < 256) (hl : l.length ≤ 1048576) (s : Nat) (s2 : Int) (hs : s ≤ 1000) : ∃ (e : Int) (p : Bool) (o w : Int) (ps : List Int) (st : Int) (s' : Nat), Ev (fun k => spec_l15Outcome.f k l (s : Int) s2) (e, p, o, w, ps, st, (s' : Int), s2) ∧ ps.length ≤ 3 ∧ s' ≤ s + 10 := by
  have lp : ∀ (d s : Nat) (ps : List Int) (e st : Int), d ≤ 3 → ps.length + d ≤ 3 → s + d ≤ 1010 → ∃ (p : Bool) (o w : Int) (ps' : List Int) (s' : Nat), Ev (fun k => spec_l15Outcome.l0 k (d : Int) l (s : Int) s2 e false 0 0 ps st) (e, p, o, w, ps', st, (s' : Int), s2) ∧ ps'.length ≤ 3 ∧ s' ≤ s + d + 2 := by
    intro d
    induction d with
    | zero =>
      intro s ps e st _ h3 hs
      by_cases h0 : e = 0
      · obtain ⟨r, er, _⟩ := next_ok l hB hl s s2 3 (by omega) (by omega)
        obtain ⟨q, eq, q0, q1⟩ := next_ok l hB hl (s + 1) s2 4 (by omega) (by omega)
        have : ∃ (p : Bool) (o w : Int), ∀ k, spec_l15Outcome.l0 (k + 1) ((0 : Nat) : Int) l (s : Int) s2 e false 0 0 ps st = some (e, p, o, w, ps, st, ((s + 1 + 1 : Nat) : Int), s2) := by
          refine ⟨(rd_T50 [(⟨false, 0, IntKind.u64.wrap r⟩ : S50), (⟨true, 0, 0⟩ : S50), (⟨false, 1, 2⟩ : S50), (⟨false, 0, 0⟩ : S50)] q).f0, (rd_T50 [(⟨false, 0, IntKind.u64.wrap r⟩ : S50), (⟨true, 0, 0⟩ : S50), (⟨false, 1, 2⟩ : S50), (⟨false, 0, 0⟩ : S50)] q).f1, (rd_T50 [(⟨false, 0, IntKind.u64.wrap r⟩ : S50), (⟨true, 0, 0⟩ : S50), (⟨false, 1, 2⟩ : S50), (⟨false, 0, 0⟩ : S50)] q).f2, fun k => ?_⟩
          simp only [spec_l15Outcome.l0]
          rw [if_neg (by omega), if_pos h0, er]
          simp only [Option.bind_some]
          rw [eq]
          simp only [Option.bind_some]
          rw [if_pos q0, if_pos (by simp only [List.length_cons, List.length_nil]; omega)]
        obtain ⟨p, o, w, h⟩ := this
        exact ⟨p, o, w, ps, s + 1 + 1, Ev.step (f := fun _ => some _) h (Ev.now _), by omega, by omega⟩
      · refine ⟨false, 0, 0, ps, s, Ev.step (f := fun _ => some _) (fun k => ?_) (Ev.now _), by omega, by omega⟩
        simp only [spec_l15Outcome.l0]
        rw [if_neg (by omega), if_neg h0]
    | succ d ih =>
      intro s ps e st h2 h3 hs
      obtain ⟨r, er, _⟩ := next_ok l hB hl s s2 3 (by omega) (by omega)
      obtain ⟨p, o, w, ps', s', ev, b1, b2⟩ := ih (s + 1) (ps ++ [IntKind.u64.wrap r]) e st (by omega) (by simp only [List.length_append, List.length_cons, List.length_nil]; omega) (by omega)
      refine ⟨p, o, w, ps', s', Ev.step (fun k => ?_) ev, b1, by omega⟩
      simp only [spec_l15Outcome.l0]
      rw [if_pos (by omega), er]
      simp only [Option.bind_some]
      rw [if_pos (by omega), show wrap64 (((d + 1 : Nat) : Int) - 1) = (d : Int) by rw [wrap64_id (by omega) (by omega)]; omega]
  obtain ⟨e, ee, _⟩ := next_ok l hB hl s s2 8 (by omega) (by omega)
  obtain ⟨st, es, _⟩ := next_ok l hB hl (s + 1) s2 9 (by omega) (by omega)
  obtain ⟨i, ei, i0, i1⟩ := next_ok l hB hl (s + 1 + 1) s2 4 (by omega) (by omega)
  obtain ⟨p, o, w, ps, s', ev, b1, b2⟩ := lp i.toNat (s + 1 + 1 + 1) [] e st (by omega) (by simp only [List.length_nil]; omega) (by omega)
  refine ⟨e, p, o, w, ps, st, s', Ev.congr (fun k => ?_) ev, b1, by omega⟩
  unfold spec_l15Outcome.f
  rw [ee]
  simp only [Option.bind_some]
  rw [es]
  simp only [Option.bind_some]
  rw [ei]
  simp only [Option.bind_some]
  rw [show ((i.toNat : Nat) : Int) = i by omega]
theorem chance_ok (l : List Int) (hB : ∀ y ∈ l, 0 ≤ y ∧ y < 256) (hl : l.length ≤ 1048576) (s : Nat) (s2 n : Int) (hs : s ≤ 100000) (hn : 1 ≤ n ∧ n ≤ 200) : ∃ r : Bool, spec_l1Chance.f l (s : Int) s2 n = some (r, ((s + 1 : Nat) : Int), s2) := by
  obtain ⟨r, er, _⟩ := next_ok l hB hl s s2 n hs hn
  unfold spec_l1Chance.f
  rw [er]
  exact ⟨_, rfl⟩
/-- Two outcomes drawn: few prints each. -/
theorem draw_ok (l : List Int) (hB : ∀ y ∈ l, 0 ≤ y ∧ y < 256) (hl : l.length ≤ 1048576) : ∃ (e : Int) (p : Bool) (o w : Int) (ps : List Int) (st e' : Int) (p' : Bool) (o' w' : Int) (ps' : List Int) (st' : Int), Ev (fun k => spec_DrawRefines.f k l) (e, p, o, w, ps, st, e', p', o', w', ps', st') ∧ ps.length ≤ 4 ∧ ps'.length ≤ 4 := by
  have so : ∃ c : Int, spec_l1Source.f l = some (l, ((0 : Nat) : Int), c) := by
    unfold spec_l1Source.f
    split
    · exact ⟨_, rfl⟩
    · exact ⟨_, rfl⟩
  obtain ⟨c, eso⟩ := so
  obtain ⟨e, p, o, w, ps, st, s1, ev1, b1, c1⟩ := out_ok l hB hl 0 c (by omega)
  obtain ⟨e', p', o', w', ps', st', s2, ev2, b2, c2⟩ := out_ok l hB hl s1 c (by omega)
  obtain ⟨x, ex⟩ := chance_ok l hB hl s2 c 2 (by omega) (by omega)
  cases x with
  | false =>
    refine ⟨e, p, o, w, ps, st, e', p', o', w', ps', st', ?_, by omega, by omega⟩
    unfold spec_DrawRefines.f
    simp only [eso, Option.bind_some]
    refine Ev.bind ev1 (Ev.bind ev2 ?_)
    simp only [ex, Option.bind_some, Bool.false_eq_true, if_false]
    exact Ev.now _
  | true =>
    obtain ⟨y, ey⟩ := chance_ok l hB hl (s2 + 1) c 3 (by omega) (by omega)
    cases y with
    | false =>
      refine ⟨e, p, o, w, ps, st, e, p, o, w, [] ++ ps, st, ?_, by omega, by simpa using (by omega : ps.length ≤ 4)⟩
      unfold spec_DrawRefines.f
      simp only [eso, Option.bind_some]
      refine Ev.bind ev1 (Ev.bind ev2 ?_)
      simp only [ex, Option.bind_some, if_true]
      rw [if_pos (by simp only [List.length_nil]; omega)]
      simp only [ey, Option.bind_some, Bool.false_eq_true, if_false]
      exact Ev.now _
    | true =>
      obtain ⟨z, ez, _⟩ := next_ok l hB hl (s2 + 1 + 1) c 3 (by omega) (by omega)
      refine ⟨e, p, o, w, ps, st, e, p, o, w, ([] ++ ps) ++ [IntKind.u64.wrap z], st, ?_, by omega, by simp only [List.nil_append, List.length_append, List.length_cons, List.length_nil]; omega⟩
      unfold spec_DrawRefines.f
      simp only [eso, Option.bind_some]
      refine Ev.bind ev1 (Ev.bind ev2 ?_)
      simp only [ex, Option.bind_some, if_true]
      rw [if_pos (by simp only [List.length_nil]; omega)]
      simp only [ey, Option.bind_some, if_true]
      rw [ez]
      simp only [Option.bind_some]
      rw [if_pos (by simp only [List.nil_append]; omega)]
      exact Ev.now _
/-! what may stand for what -/
theorem preB_refl : ∀ l : List Int, preB l l = true
  | [] => rfl
  | x :: xs => by
    unfold preB
    rw [if_pos rfl]
    exact preB_refl xs
theorem preB_eq : ∀ l l' : List Int, l.length = l'.length → preB l l' = true → l = l'
  | [], [], _, _ => rfl
  | [], _ :: _, h, _ => by simp at h
  | _ :: _, [], h, _ => by simp at h
  | x :: xs, y :: ys, h, hp => by
    unfold preB at hp
    split at hp
    · rename_i e
      rw [e, preB_eq xs ys (by simpa using h) hp]
    · exact absurd hp (by simp)
theorem tail_refl (e : Int) (p : Bool) (o w : Int) (l : List Int) : tailR e p o w l e p o w l = true := by
  unfold tailR
  rw [if_pos rfl, if_pos rfl, if_pos (preB_refl l)]
  split
  · rfl
  split
  · simp
  · rfl
theorem ref_refl (e : Int) (p : Bool) (o w : Int) (l : List Int) : refR e p o w l e p o w l = true := by
  unfold refR
  split
  · rfl
  split
  · rw [if_pos (preB_refl l)]
  · exact tail_refl e p o w l
theorem tail_elim {e : Int} {p : Bool} {o w : Int} {l : List Int} {e' : Int} {p' : Bool} {o' w' : Int} {l' : List Int} (h : tailR e p o w l e' p' o' w' l' = true) : e = e' ∧ l = l' ∧ (p = true ∨ o ≠ 0 ∨ (p = p' ∧ o = o' ∧ w = w')) := by
  unfold tailR at h
  split at h
  · rename_i h1
    split at h
    · rename_i h2
      split at h
      · rename_i h3
        refine ⟨h1, preB_eq l l' (by omega) h3, ?_⟩
        split at h
        · rename_i h4
          exact Or.inl h4
        · split at h
          · simp only [Bool.and_eq_true, beq_iff_eq] at h
            exact Or.inr (Or.inr ⟨h.1, h.2.1, h.2.2⟩)
          · rename_i h5
            exact Or.inr (Or.inl h5)
      · exact absurd h (by simp)
    · exact absurd h (by simp)
  · exact absurd h (by simp)
theorem tail_intro {e : Int} {p : Bool} {o w : Int} {l : List Int} {p' : Bool} {o' w' : Int} (h : p = true ∨ o ≠ 0 ∨ (p = p' ∧ o = o' ∧ w = w')) : tailR e p o w l e p' o' w' l = true := by
  unfold tailR
  rw [if_pos rfl, if_pos rfl, if_pos (preB_refl l)]
  rcases h with h | h | ⟨h1, h2, h3⟩
  · rw [if_pos h]
  · split
    · rfl
    · first | rfl | rw [if_neg h]
  · subst h1 h2 h3
    split
    · rfl
    split
    · simp
    · rfl
theorem ref_trans {e : Int} {p : Bool} {o w : Int} {l : List Int} {e' : Int} {p' : Bool} {o' w' : Int} {l' : List Int} {e2 : Int} {p2 : Bool} {o2 w2 : Int} {l2 : List Int} (hd : e' = 0 ∨ e' = 1) (h1 : refR e p o w l e' p' o' w' l' = true) (h2 : refR e' p' o' w' l' e2 p2 o2 w2 l2 = true) : refR e p o w l e2 p2 o2 w2 l2 = true := by
  unfold refR at h2
  rw [if_neg (by omega), if_neg (by omega)] at h2
  obtain ⟨a1, a2, a3⟩ := tail_elim h2
  subst a1 a2
  unfold refR at h1 ⊢
  split
  · rfl
  rename_i n7
  rw [if_neg n7] at h1
  split
  · rename_i n2
    rw [if_pos n2] at h1
    exact h1
  · rename_i n2
    rw [if_neg n2] at h1
    obtain ⟨b1, b2, b3⟩ := tail_elim h1
    subst b1 b2
    refine tail_intro ?_
    rcases b3 with b | b | ⟨b4, b5, b6⟩
    · exact Or.inl b
    · exact Or.inr (Or.inl b)
    · subst b4 b5 b6
      exact a3
theorem FnRefines : laws_FnRefines.Pure := by
  intro l0 l1 h0 _ hb0 h1 _ hb1
  have by0 : ∀ {l : List Int}, (∀ x ∈ l, (Lit.int .u8 x).wf = true) → ∀ y ∈ l, 0 ≤ y ∧ y < 256 := by
    intro l hw y h
    have := hw y h
    simp [Lit.wf, IntKind.min, IntKind.max, IntKind.signed, IntKind.bits] at this
    omega
  have far : ∀ l0 l1, Ev (fun k => laws_FnRefines.j0 k l0 l1 true) true := fun l0 l1 =>
    Ev.step (f := fun _ => some true) (fun k => by simp only [laws_FnRefines.j0, if_true]) (Ev.now true)
  refine Ev.rounds ?_
  unfold laws_FnRefines.f
  by_cases n0 : (l0.length : Int) > 1048576
  · simp only [if_pos n0]
    exact far l0 l1
  simp only [if_neg n0]
  by_cases n1 : (l1.length : Int) > 1048576
  · simp only [decide_eq_true n1]
    exact far l0 l1
  simp only [decide_eq_false n1]
  obtain ⟨e, p, o, w, ps, st, e', p', o', w', ps', st', ev, b, b'⟩ := draw_ok l0 (by0 hb0) (by omega)
  obtain ⟨_, _, _, _, _, _, e2, p2, o2, w2, ps2, st2, ev2, _, b2⟩ := draw_ok l1 (by0 hb1) (by omega)
  have j4 : ∀ x, (x = false → e = 0 ∧ p = false ∧ o = 0) → Ev (fun k => laws_FnRefines.j4 k x e p o w ps st) true := by
    intro x hx
    cases x with
    | true => exact Ev.step (f := fun _ => some true) (fun k => by simp only [laws_FnRefines.j4, if_true]) (Ev.now true)
    | false =>
      obtain ⟨rfl, rfl, rfl⟩ := hx rfl
      refine Ev.step (fun k => by simp only [laws_FnRefines.j4, Bool.false_eq_true, if_false, Option.bind_some]; rfl) ?_
      simp only [List.nil_append, List.length_nil, Nat.zero_add]
      simp only [if_pos (show ps.length < 17592186044416 by omega)]
      refine Ev.bind (ref_impl 0 false 0 w ps st 0 false 0 w (ps ++ [5]) st (by omega) (by simp only [List.length_append, List.length_cons, List.length_nil]; omega)) ?_
      have f1 : refR 0 false 0 w ps 0 false 0 w (ps ++ [5]) = false := by
        cases h : refR 0 false 0 w ps 0 false 0 w (ps ++ [5]) with
        | false => rfl
        | true =>
          unfold refR at h
          rw [if_neg (by omega), if_neg (by omega)] at h
          have := congrArg List.length (tail_elim h).2.1
          simp only [List.length_append, List.length_cons, List.length_nil] at this
          omega
      rw [f1]
      simp only [Bool.false_eq_true, if_false]
      refine Ev.bind (ref_impl 0 false 0 w ps st 0 false 0 (IntKind.u64.wrap (w + 1)) ps st (by omega) (by omega)) ?_
      have f2 : refR 0 false 0 w ps 0 false 0 (IntKind.u64.wrap (w + 1)) ps = false := by
        cases h : refR 0 false 0 w ps 0 false 0 (IntKind.u64.wrap (w + 1)) ps with
        | false => rfl
        | true =>
          unfold refR at h
          rw [if_neg (by omega), if_neg (by omega)] at h
          rcases (tail_elim h).2.2 with h | h | ⟨_, _, h⟩
          · exact absurd h (by simp)
          · exact absurd rfl h
          · rw [IntKind.wrap_u64] at h
            omega
      rw [f2]
      exact Ev.now _
  have j3 : Ev (fun k => laws_FnRefines.j3 k false e p o w ps st) true := by
    refine Ev.step (f := fun k => if e = 0 then (if p = true then laws_FnRefines.j4 k true e p o w ps st else laws_FnRefines.j4 k (o != 0) e p o w ps st) else laws_FnRefines.j4 k true e p o w ps st) (fun k => by simp only [laws_FnRefines.j3, Bool.false_eq_true, if_false]) ?_
    by_cases c1 : e = 0
    · simp only [if_pos c1]
      by_cases c2 : p = true
      · simp only [if_pos c2]
        exact j4 true (by simp)
      · simp only [if_neg c2]
        refine j4 _ (fun h => ⟨c1, by simpa using c2, by simpa using h⟩)
    · simp only [if_neg c1]
      exact j4 true (by simp)
  have j2 : ∀ x, (x = true → e' = 0 ∨ e' = 1) → Ev (fun k => laws_FnRefines.j2 k x e p o w ps st e' p' o' w' ps' st' e2 p2 o2 w2 ps2 st2) true := by
    intro x hx
    cases x with
    | false => exact Ev.step (fun k => by simp only [laws_FnRefines.j2, Bool.false_eq_true, if_false]) j3
    | true =>
      refine Ev.step (fun k => by simp only [laws_FnRefines.j2, if_true]; rfl) (Ev.bind (ref_impl e p o w ps st e' p' o' w' ps' st' (by omega) (by omega)) ?_)
      cases r1 : refR e p o w ps e' p' o' w' ps' with
      | false =>
        simp only [Bool.false_eq_true, if_false]
        exact j3
      | true =>
        simp only [if_true]
        refine Ev.bind (ref_impl e' p' o' w' ps' st' e2 p2 o2 w2 ps2 st2 (by omega) (by omega)) ?_
        cases r2 : refR e' p' o' w' ps' e2 p2 o2 w2 ps2 with
        | false =>
          simp only [Bool.false_eq_true, if_false]
          exact j3
        | true =>
          simp only [if_true]
          refine Ev.bind (ref_impl e p o w ps st e2 p2 o2 w2 ps2 st2 (by omega) (by omega)) ?_
          rw [ref_trans (hx rfl) r1 r2]
          exact j3
  have j1 : Ev (fun k => laws_FnRefines.j1 k false e p o w ps st e' p' o' w' ps' st' e2 p2 o2 w2 ps2 st2) true := by
    refine Ev.step (f := fun k => if e' = 0 then (if p' = true then (laws_FnRefines.j2 k (e' == 1) e p o w ps st e' p' o' w' ps' st' e2 p2 o2 w2 ps2 st2) else (if o' = 0 then (laws_FnRefines.j2 k true e p o w ps st e' p' o' w' ps' st' e2 p2 o2 w2 ps2 st2) else (laws_FnRefines.j2 k (e' == 1) e p o w ps st e' p' o' w' ps' st' e2 p2 o2 w2 ps2 st2))) else (laws_FnRefines.j2 k (e' == 1) e p o w ps st e' p' o' w' ps' st' e2 p2 o2 w2 ps2 st2)) (fun k => by simp only [laws_FnRefines.j1, Bool.false_eq_true, if_false]) ?_
    have t1 : (e' == 1) = true → e' = 0 ∨ e' = 1 := fun h => Or.inr (by simpa using h)
    by_cases c1 : e' = 0
    · simp only [if_pos c1]
      by_cases c2 : p' = true
      · simp only [if_pos c2]
        exact j2 _ t1
      · simp only [if_neg c2]
        by_cases c3 : o' = 0
        · simp only [if_pos c3]
          exact j2 _ (fun _ => Or.inl c1)
        · simp only [if_neg c3]
          exact j2 _ t1
    · simp only [if_neg c1]
      exact j2 _ t1
  refine Ev.step (fun k => by simp only [laws_FnRefines.j0, Bool.false_eq_true, if_false]; rfl) (Ev.bind ev (Ev.bind ev2 ?_))
  dsimp only
  refine Ev.bind (ref_impl e p o w ps st e p o w ps st (by omega) (by omega)) ?_
  rw [ref_refl]
  simp only [if_true]
  refine Ev.bind (ref_impl e' p' o' w' ps' st' e' p' o' w' ps' st' (by omega) (by omega)) ?_
  rw [ref_refl]
  simp only [if_true]
  refine Ev.bind (ref_impl e p o w ps st e' p' o' w' ps' st' (by omega) (by omega)) (Ev.bind (ref_spec e p o w ps st e' p' o' w' ps' st' (by omega) (by omega)) ?_)
  simp only [bne_self_eq_false]
  exact j1

end Go.Proofs.Ythfhenhlfedfmaa.Pure
