/- At every instruction the program's Reads tells the reference's list, and its list owns its memory, where the argument is of at most 1048576 parts; larger ones are not asked. -/
import Derived.Test.YthfhenhlfedfmaaOpenFnExactReads
import Derived.Test.YthfhenhlfedfmaaPlGen
namespace Go.Proofs.Ythfhenhlfedfmaa.Pure
open Go.RowKit Go.Proofs.Ythfhenhlfedfmaa.QFnExactReads Go.Proofs.Ythfhenhlfedfmaa.OpenFnExactReads Go.Proofs.YthfhenhlfedfmaaW.PrintWords Go.Proofs.YthfhenhlfedfmaaW.PrintLast Go.Proofs.YthfhenhlfedfmaaW.PrintMore Go.Proofs.Ythfhenhlfedfmaa.RowOpen Go.Proofs.Ythfhenhlfedfmaa.PlGen
set_option linter.unusedSimpArgs false
set_option linter.unusedVariables false
set_option maxHeartbeats 4000000

theorem laws_szInt64S_at (l : List Int) (left : Int) (hl : l.length ≤ 9223372036854775807) (h0 : 0 ≤ left) (h1 : left ≤ 1048576) : laws_szInt64S.f l left = some (if left - (l.length : Int) < 0 then -1 else left - l.length) := by
  unfold laws_szInt64S.f
  rw [wrap64_id (by omega) (by omega)]
  split <;> rfl

theorem laws_toInt64S_ev (l : List Int) (hl : l.length ≤ 1048576) : Ev (fun k => laws_toInt64S.f k l) l := by
  have := copy_loop (fun k ys i => laws_toInt64S.l0 k l ys i) l (fun x => x) (fun k ys => by simp only [laws_toInt64S.l0]; rw [if_neg (by omega)])
    (fun i hi ys hy r h => by
      refine Ev.step (f := fun k => laws_toInt64S.l0 k l (ys.set i l[i]) ((i + 1 : Nat) : Int)) (fun k => ?_) h
      simp only [laws_toInt64S.l0]
      rw [if_pos (by omega), if_pos (by omega), if_pos (by omega), rd_at hi, wrap64_next hi (by omega)]
      rfl) (List.replicate ((l.length : Int)).toNat 0) (by simp)
  rw [List.map_id'] at this
  refine Ev.congr (fun k => ?_) this
  unfold laws_toInt64S.f
  rw [if_pos (by omega), if_pos (by omega)]

theorem laws_eqInt64S_ev (l : List Int) (hl : l.length ≤ 1099511627776) : Ev (fun k => laws_eqInt64S.f k l l) true := by
  have := eq_loop (fun k i => laws_eqInt64S.l0 k l l i) l.length (fun k => by simp only [laws_eqInt64S.l0]; rw [if_neg (by omega)])
    (fun i hi h => by
      refine Ev.step (f := fun k => laws_eqInt64S.l0 k l l ((i + 1 : Nat) : Int)) (fun k => ?_) h
      simp only [laws_eqInt64S.l0]
      rw [if_pos (by omega), if_pos (by omega), if_pos (by omega), if_pos trivial, wrap64_next hi (by omega)])
  refine Ev.congr (fun k => ?_) this
  unfold laws_eqInt64S.f
  rw [if_pos rfl]

def laws_markInt64S_s (m : Int) (n : Nat) : List Int := (List.range n).map fun (i : Nat) => (m + (i : Int))
theorem laws_markInt64S_s_at (m : Int) (n i : Nat) (h : i < (laws_markInt64S_s m n).length) : (laws_markInt64S_s m n)[i] = (m + (i : Int)) := by
  simp [laws_markInt64S_s]
theorem laws_markInt64S_s_len (m : Int) (n : Nat) : (laws_markInt64S_s m n).length = n := by simp [laws_markInt64S_s]
theorem laws_markInt64S_ev (l : List Int) (m : Int) (hl : l.length ≤ 1099511627776) (h0 : 0 ≤ m) (h1 : m ≤ 1099511627776) : Ev (fun k => laws_markInt64S.f k l m) (m + l.length, laws_markInt64S_s m l.length) := by
  have main : ∀ (d i : Nat) (ys : List Int), i + d = l.length → ys.length = l.length → (∀ j (h : j < ys.length), j < i → ys[j] = (m + (j : Int))) → Ev (fun k => laws_markInt64S.l0 k ys (m + i) (i : Int)) (m + l.length, laws_markInt64S_s m l.length) := by
    intro d
    induction d with
    | zero =>
      intro i ys hi hy hp
      have e : ys = laws_markInt64S_s m l.length := List.ext_getElem (by rw [hy, laws_markInt64S_s_len]) (fun j h1 h2 => by rw [hp j h1 (by omega), laws_markInt64S_s_at])
      refine Ev.step (f := fun _ => some (m + l.length, laws_markInt64S_s m l.length)) (fun k => ?_) (Ev.now _)
      simp only [laws_markInt64S.l0]
      rw [if_neg (by omega), ← e, show (i : Int) = (l.length : Int) by omega]
    | succ d ih =>
      intro i ys hi hy hp
      refine Ev.step (fun k => ?_) (ih (i + 1) (ys.set i (m + (i : Int))) (by omega) (by simpa using hy) (fun j h hj => ?_))
      · simp only [laws_markInt64S.l0]
        rw [if_pos (by omega), if_pos (by omega), wrap64_next (show i < l.length by omega) (by omega), wrap64_id (x := m + (i : Int) + 1) (by omega) (by omega), show m + (i : Int) + 1 = m + ((i + 1 : Nat) : Int) by omega]
        rfl
      · rw [List.getElem_set]
        by_cases e : i = j
        · subst e
          rw [if_pos rfl]
        · rw [if_neg e]
          exact hp j (by simpa using h) (by omega)
  have := main l.length 0 l (by omega) rfl (fun j _ h => by omega)
  simp only [Int.natCast_zero, Int.add_zero] at this
  exact this
theorem laws_heldInt64S_ev (m : Int) (n : Nat) (hl : n ≤ 1099511627776) (h0 : 0 ≤ m) (h1 : m ≤ 1099511627776) : Ev (fun k => laws_heldInt64S.f k (laws_markInt64S_s m n) m) (m + n) := by
  have main : ∀ (d i : Nat), i + d = n → Ev (fun k => laws_heldInt64S.l0 k (laws_markInt64S_s m n) (m + i) (i : Int)) (m + n) := by
    intro d
    induction d with
    | zero =>
      intro i hi
      refine Ev.step (f := fun _ => some (m + n)) (fun k => ?_) (Ev.now _)
      have hn := laws_markInt64S_s_len m n
      simp only [laws_heldInt64S.l0]
      rw [if_neg (by omega), show (i : Int) = (n : Int) by omega]
    | succ d ih =>
      intro i hi
      refine Ev.step (fun k => ?_) (ih (i + 1) (by omega))
      have hn := laws_markInt64S_s_len m n
      have hlt : i < (laws_markInt64S_s m n).length := by omega
      simp only [laws_heldInt64S.l0]
      rw [if_pos (by omega), if_pos (by omega), rd_at hlt, laws_markInt64S_s_at, if_pos rfl, wrap64_next hlt (by omega), wrap64_id (x := m + (i : Int) + 1) (by omega) (by omega), show m + (i : Int) + 1 = m + ((i + 1 : Nat) : Int) by omega]
  have := main n 0 (by omega)
  simp only [Int.natCast_zero, Int.add_zero] at this
  exact this


def F (l : List Int) : List Int := l.filter fun x => decide (0 ≤ x)
theorem F_cons (x : Int) (l : List Int) : F (x :: l) = if 0 ≤ x then x :: F l else F l := by
  unfold F
  by_cases h : 0 ≤ x <;> simp [h]
theorem spec_l0_ev (op a2 a3 a4 a5 : Int) (A B : Int) (s : ByteArray) (args : List Int) (hl : args.length ≤ 1048576) (acc : List Int) (ha : acc.length ≤ 3) (x0 x1 x2 x3 x4 x5 : Int) :
    Ev (fun k => spec_Reads.l0 k acc 0 x0 x1 x2 x3 x4 x5 s args) (acc ++ F args) := by
  have main : ∀ (d i : Nat) (acc : List Int), i + d = args.length → acc.length ≤ 3 + i → Ev (fun k => spec_Reads.l0 k acc (i : Int) x0 x1 x2 x3 x4 x5 s args) (acc ++ F (args.drop i)) := by
    intro d
    induction d with
    | zero =>
      intro i acc hi ha
      rw [List.drop_eq_nil_of_le (by omega)]
      refine Ev.step (f := fun _ => some (acc ++ F [])) (fun k => ?_) (Ev.now _)
      simp only [spec_Reads.l0]
      rw [if_neg (by omega)]
      simp [F]
    | succ d ih =>
      intro i acc hi ha
      have hlt : i < args.length := by omega
      rw [List.drop_eq_getElem_cons hlt, F_cons]
      by_cases c : 0 ≤ args[i]
      · rw [if_pos c]
        have g := ih (i + 1) (acc ++ [args[i]]) (by omega) (by simp; omega)
        rw [List.append_assoc] at g
        refine Ev.step (fun k => ?_) g
        simp only [spec_Reads.l0]
        rw [if_pos (by omega), if_pos (by omega), rd_at hlt, if_pos (by omega), if_pos (by omega), wrap64_next hlt (by omega)]
      · rw [if_neg c]
        have g := ih (i + 1) acc (by omega) (by omega)
        refine Ev.step (fun k => ?_) g
        simp only [spec_Reads.l0]
        rw [if_pos (by omega), if_pos (by omega), rd_at hlt, if_neg (by omega), wrap64_next hlt (by omega)]
  exact main args.length 0 acc (by omega) (by omega)
theorem impl_l0_ev (L : List Int) (hl : L.length ≤ 1048579) : Ev (fun k => impl_Reads.l0 k [] L (L.length : Int) 0) (F L) := by
  have main : ∀ (d i : Nat) (acc : List Int), i + d = L.length → acc.length ≤ i → Ev (fun k => impl_Reads.l0 k acc L (L.length : Int) (i : Int)) (acc ++ F (L.drop i)) := by
    intro d
    induction d with
    | zero =>
      intro i acc hi ha
      rw [List.drop_eq_nil_of_le (by omega)]
      refine Ev.step (f := fun _ => some (acc ++ F [])) (fun k => ?_) (Ev.now _)
      simp only [impl_Reads.l0]
      rw [if_neg (by omega)]
      simp [F]
    | succ d ih =>
      intro i acc hi ha
      have hlt : i < L.length := by omega
      rw [List.drop_eq_getElem_cons hlt, F_cons]
      by_cases c : 0 ≤ L[i]
      · rw [if_pos c]
        have g := ih (i + 1) (acc ++ [L[i]]) (by omega) (by simp; omega)
        rw [List.append_assoc] at g
        refine Ev.step (fun k => ?_) g
        simp only [impl_Reads.l0]
        rw [if_pos (by omega), if_pos (by omega), if_pos (by omega), rd_at hlt, if_pos (by omega), if_pos (by omega), wrap64_next hlt (by omega)]
      · rw [if_neg c]
        have g := ih (i + 1) acc (by omega) (by omega)
        refine Ev.step (fun k => ?_) g
        simp only [impl_Reads.l0]
        rw [if_pos (by omega), if_pos (by omega), if_pos (by omega), rd_at hlt, if_neg (by omega), wrap64_next hlt (by omega)]
  exact main L.length 0 [] (by omega) (by simp)
/-- What both tell. -/
def want (op a b c : Int) (args : List Int) : List Int := F ([a, b, if op = 20 ∨ op = 21 ∨ op = 46 then -1 else c] ++ args)
theorem impl_ev (x0 x1 x2 x3 x4 x5 : Int) (s : ByteArray) (args : List Int) (hl : args.length ≤ 1048576) : Ev (fun k => impl_Reads.f k x0 x1 x2 x3 x4 x5 s args) (want x0 x2 x3 x4 args) := by
  have j1 : ∀ c, Ev (fun k => impl_Reads.j1 k [] c x0 x1 x2 x3 x4 x5 s args) (F ([x2, x3, c] ++ args)) := by
    intro c
    have hL : ([x2, x3, c] ++ args).length ≤ 1048579 := by simp; omega
    refine Ev.step (fun k => ?_) (impl_l0_ev _ hL)
    simp only [impl_Reads.j1, Option.bind_some]
    rw [if_pos (by simp; omega)]
  have j0t : Ev (fun k => impl_Reads.j0 k [] x4 true x0 x1 x2 x3 x4 x5 s args) (F ([x2, x3, -1] ++ args)) := Ev.step (fun k => by simp only [impl_Reads.j0, if_true]) (j1 (-1))
  have j0f : Ev (fun k => impl_Reads.j0 k [] x4 false x0 x1 x2 x3 x4 x5 s args) (F ([x2, x3, x4] ++ args)) := Ev.step (fun k => by simp only [impl_Reads.j0, Bool.false_eq_true, if_false]) (j1 x4)
  unfold want
  by_cases c1 : x0 = 20
  · rw [if_pos (Or.inl c1)]
    refine Ev.congr (fun k => ?_) j0t
    unfold impl_Reads.f
    rw [if_pos c1]
  by_cases c2 : x0 = 21
  · rw [if_pos (Or.inr (Or.inl c2))]
    refine Ev.congr (fun k => ?_) j0t
    unfold impl_Reads.f
    rw [if_neg c1, if_pos c2]
  by_cases c3 : x0 = 46
  · rw [if_pos (Or.inr (Or.inr c3))]
    refine Ev.congr (fun k => ?_) j0t
    unfold impl_Reads.f
    rw [if_neg c1, if_neg c2, show (x0 == 46) = true by simpa using c3]
  · rw [if_neg (by rintro (h | h | h); exact c1 h; exact c2 h; exact c3 h)]
    refine Ev.congr (fun k => ?_) j0f
    unfold impl_Reads.f
    rw [if_neg c1, if_neg c2, show (x0 == 46) = false by simpa using c3]
theorem spec_ev (x0 x1 x2 x3 x4 x5 : Int) (s : ByteArray) (args : List Int) (hl : args.length ≤ 1048576) : Ev (fun k => spec_Reads.f k x0 x1 x2 x3 x4 x5 s args) (want x0 x2 x3 x4 args) := by
  have j3 : ∀ acc : List Int, acc.length ≤ 3 → Ev (fun k => spec_Reads.j3 k acc x0 x1 x2 x3 x4 x5 s args) (acc ++ F args) := fun acc ha =>
    Ev.step (fun k => by simp only [spec_Reads.j3]) (spec_l0_ev 0 0 0 0 0 0 0 s args hl acc ha x0 x1 x2 x3 x4 x5)
  have j2t : ∀ acc : List Int, acc.length ≤ 2 → Ev (fun k => spec_Reads.j2 k acc true x0 x1 x2 x3 x4 x5 s args) (acc ++ [x4] ++ F args) := fun acc ha =>
    Ev.step (fun k => by simp only [spec_Reads.j2, if_true]; rw [if_pos (by omega)]) (j3 (acc ++ [x4]) (by simp; omega))
  have j2f : ∀ acc : List Int, acc.length ≤ 2 → Ev (fun k => spec_Reads.j2 k acc false x0 x1 x2 x3 x4 x5 s args) (acc ++ F args) := fun acc ha =>
    Ev.step (fun k => by simp only [spec_Reads.j2, Bool.false_eq_true, if_false]) (j3 acc (by omega))
  have fold : ∀ (acc : List Int) (c : Int), acc ++ (if 0 ≤ c then [c] else []) ++ F args = acc ++ F ([c] ++ args) := by
    intro acc c
    rw [List.singleton_append, F_cons]
    split <;> simp
  have j1 : ∀ acc : List Int, acc.length ≤ 2 → Ev (fun k => spec_Reads.j1 k acc x0 x1 x2 x3 x4 x5 s args) (acc ++ F ([if x0 = 20 ∨ x0 = 21 ∨ x0 = 46 then -1 else x4] ++ args)) := by
    intro acc ha
    rw [← fold]
    by_cases c4 : 0 ≤ x4
    · by_cases hop : x0 = 20 ∨ x0 = 21 ∨ x0 = 46
      · rw [if_pos hop, if_neg (by omega)]
        refine Ev.step (fun k => ?_) (by rw [List.append_nil]; exact j2f acc ha)
        simp only [spec_Reads.j1]
        rw [if_pos (by omega)]
        rcases hop with h | h | h
        · rw [if_pos h]
        · rw [if_neg (by omega), if_pos h]
        · rw [if_neg (by omega), if_neg (by omega), show (x0 != 46) = false by simpa using h]
      · rw [if_neg hop, if_pos c4]
        refine Ev.step (fun k => ?_) (j2t acc ha)
        simp only [spec_Reads.j1]
        rw [if_pos (by omega), if_neg (fun h => hop (Or.inl h)), if_neg (fun h => hop (Or.inr (Or.inl h))), show (x0 != 46) = true by simpa using fun h => hop (Or.inr (Or.inr h))]
    · rw [if_neg (by split <;> omega), List.append_nil]
      refine Ev.step (fun k => ?_) (j2f acc ha)
      simp only [spec_Reads.j1]
      rw [if_neg (by omega)]
  have j0 : ∀ acc : List Int, acc.length ≤ 1 → Ev (fun k => spec_Reads.j0 k acc x0 x1 x2 x3 x4 x5 s args) (acc ++ F ([x3, if x0 = 20 ∨ x0 = 21 ∨ x0 = 46 then -1 else x4] ++ args)) := by
    intro acc ha
    rw [List.cons_append, F_cons]
    by_cases c : 0 ≤ x3
    · rw [if_pos c]
      have g := j1 (acc ++ [x3]) (by simp; omega)
      rw [List.append_assoc] at g
      refine Ev.step (fun k => ?_) g
      simp only [spec_Reads.j0]
      rw [if_pos (by omega), if_pos (by omega)]
    · rw [if_neg c]
      refine Ev.step (fun k => ?_) (j1 acc (by omega))
      simp only [spec_Reads.j0]
      rw [if_neg (by omega)]
  unfold want
  rw [List.cons_append, F_cons]
  by_cases c : 0 ≤ x2
  · rw [if_pos c]
    refine Ev.congr (fun k => ?_) (j0 [x2] (by simp))
    unfold spec_Reads.f
    simp only [Option.bind_some]
    rw [if_pos (by omega), if_pos (by simp)]
    rfl
  · rw [if_neg c]
    refine Ev.congr (fun k => ?_) (j0 [] (by simp))
    unfold spec_Reads.f
    simp only [Option.bind_some]
    rw [if_neg (by omega)]
theorem want_len (op a b c : Int) (args : List Int) (hl : args.length ≤ 1048576) : (want op a b c args).length ≤ 1099511627776 := by
  have := List.length_filter_le (fun x : Int => decide (0 ≤ x)) ([a, b, if op = 20 ∨ op = 21 ∨ op = 46 then -1 else c] ++ args)
  unfold want F
  simp only [List.length_append, List.length_cons, List.length_nil] at this
  omega

theorem FnExactReads : laws_FnExactReads.Pure := by
  intro x0 x1 x2 x3 x4 x5 s args _ _ _ _ _ _ hs ha
  obtain ⟨hal, _⟩ := ha
  simp only [maxLen] at hs hal
  have sz : ∃ r, laws_szVIns.f x0 x1 x2 x3 x4 x5 s args 1048576 = some r ∧ (0 ≤ r → args.length ≤ 1048576) := by
    unfold laws_szVIns.f
    rw [wrap64_id (by omega) (by omega)]
    by_cases c1 : (1048576 : Int) - (s.size : Int) < 0
    · rw [if_pos c1]
      exact ⟨-1, rfl, fun h => by omega⟩
    rw [if_neg c1, laws_szInt64S_at _ _ hal (by omega) (by omega)]
    simp only [Option.bind_some]
    by_cases c2 : (1048576 : Int) - (s.size : Int) - (args.length : Int) < 0
    · rw [if_pos c2, if_pos (by omega)]
      exact ⟨-1, rfl, fun h => by omega⟩
    · rw [if_neg c2, if_neg c2]
      exact ⟨_, rfl, fun _ => by omega⟩
  obtain ⟨r, hr, hb⟩ := sz
  unfold laws_FnExactReads.f
  rw [hr]
  simp only [Option.bind_some]
  by_cases hn : r < 0
  · exact ⟨0, if_pos hn⟩
  have hl := hb (by omega)
  have tf : Ev (fun k => laws_toVIns.f k x0 x1 x2 x3 x4 x5 s args) (x0, x1, x2, x3, x4, x5, s, args) := by
    unfold laws_toVIns.f
    exact Ev.bind (laws_toInt64S_ev args hl) (Ev.now _)
  have wl := want_len x0 x2 x3 x4 args hl
  have e1 := spec_ev x0 x1 x2 x3 x4 x5 s args hl
  have e2 := impl_ev x0 x1 x2 x3 x4 x5 s args hl
  generalize want x0 x2 x3 x4 args = w at *
  have eqv : Ev (fun k => laws_eqVIns.f k x0 x1 x2 x3 x4 x5 s args x0 x1 x2 x3 x4 x5 s args) true := by
    unfold laws_eqVIns.f
    simp only [if_true]
    exact Ev.bind (laws_eqInt64S_ev args (by omega)) (Ev.now _)
  have mk : Ev (fun k => laws_markVIns.f k x0 x1 x2 x3 x4 x5 s args 1) (1 + args.length, laws_markInt64S_s 1 args.length) := by
    unfold laws_markVIns.f
    exact Ev.bind (laws_markInt64S_ev args 1 (by omega) (by omega) (by omega)) (Ev.now _)
  simp only [if_neg hn]
  have last : Ev (fun k => laws_FnExactReads.j0 k w w false x0 x1 x2 x3 x4 x5 s args) true := by
    refine Ev.step (fun k => by simp only [laws_FnExactReads.j0, Bool.false_eq_true, if_false]; rfl) ?_
    refine Ev.bind (laws_markInt64S_ev w 1 wl (by omega) (by omega)) ?_
    refine Ev.bind (laws_heldInt64S_ev 1 w.length wl (by omega) (by omega)) ?_
    simp only [if_neg (show ¬ (1 : Int) + (w.length : Int) < 0 by omega), if_true]
    refine Ev.bind tf (Ev.bind e2 (Ev.bind (laws_eqInt64S_ev w wl) ?_))
    simp only [if_true]
    refine Ev.bind (laws_heldInt64S_ev 1 w.length wl (by omega) (by omega)) ?_
    simp only [if_neg (show ¬ (1 : Int) + (w.length : Int) < 0 by omega), if_true]
    exact Ev.now true
  refine Ev.rounds (Ev.bind tf (Ev.bind e1 (Ev.bind tf (Ev.bind e2 (Ev.bind (laws_eqInt64S_ev w wl) ?_)))))
  simp only [if_true]
  refine Ev.bind tf (Ev.bind eqv ?_)
  simp only [if_true]
  refine Ev.bind mk ?_
  simp only [if_neg (show ¬ (1 : Int) + (args.length : Int) < 0 by omega)]
  refine Ev.bind (laws_eqInt64S_ev w wl) ?_
  exact last

end Go.Proofs.Ythfhenhlfedfmaa.Pure
