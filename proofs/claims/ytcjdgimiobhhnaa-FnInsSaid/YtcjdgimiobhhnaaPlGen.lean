/- Plain laws on loops that copy, compare and count, for whatever element type; no program in sight. -/
import Derived.Test.YtcjdgimiobhhnaaVWords
import Derived.WalkKit
namespace Go.Proofs.Ytcjdgimiobhhnaa.PlGen
open Go.RowKit Go.Proofs.YtcjdgimiobhhnaaW.PrintWords
set_option linter.unusedVariables false
theorem wrap64_id {x : Int} (h0 : -9223372036854775808 ≤ x) (h1 : x ≤ 9223372036854775807) : wrap64 x = x := by
  unfold wrap64
  omega
theorem wrap64_next {i n : Nat} (h : i < n) (hn : n ≤ 9223372036854775807) : wrap64 ((i : Int) + 1) = ((i + 1 : Nat) : Int) := by
  unfold wrap64
  omega
theorem getD_at {α : Type} {xs : List α} {i : Nat} (h : i < xs.length) (z : α) : xs.getD ((i : Int)).toNat z = xs[i] := by
  simp [List.getD_eq_getElem?_getD, h]
theorem rd_at {xs : List Int} {i : Nat} (h : i < xs.length) : rd xs (i : Int) = xs[i] := by
  unfold rd
  exact getD_at h 0
/-- A loop that stores each element's image at its place. -/
theorem copy_loop {α β : Type} (L : Nat → List β → Int → Option (List β)) (xs : List α) (conv : α → β)
    (hstop : ∀ k ys, L (k + 1) ys (xs.length : Int) = some ys)
    (hstep : ∀ (i : Nat) (hi : i < xs.length) (ys : List β), ys.length = xs.length → ∀ r, Ev (fun k => L k (ys.set i (conv xs[i])) ((i + 1 : Nat) : Int)) r → Ev (fun k => L k ys (i : Int)) r)
    (ys : List β) (hy : ys.length = xs.length) : Ev (fun k => L k ys 0) (xs.map conv) := by
  have main : ∀ (d i : Nat) (ys : List β), i + d = xs.length → ys.length = xs.length → Ev (fun k => L k ys (i : Int)) (ys.take i ++ (xs.drop i).map conv) := by
    intro d
    induction d with
    | zero =>
      intro i ys hi hy
      have hi' : i = xs.length := by omega
      subst hi'
      refine Ev.step (f := fun _ => some ys) (hstop · ys) ?_
      have : (ys.take xs.length ++ (xs.drop xs.length).map conv) = ys := by
        simp [← hy]
      rw [this]
      exact Ev.now ys
    | succ d ih =>
      intro i ys hi hy
      have hlt : i < xs.length := by omega
      refine hstep i hlt ys hy _ ?_
      have := ih (i + 1) (ys.set i (conv xs[i])) (by omega) (by simpa using hy)
      have e : ((ys.set i (conv xs[i])).take (i + 1) ++ (xs.drop (i + 1)).map conv) = (ys.take i ++ (xs.drop i).map conv) := by
        rw [List.drop_eq_getElem_cons hlt, List.map_cons]
        have h1 : (ys.set i (conv xs[i])).take (i + 1) = ys.take i ++ [conv xs[i]] := by
          rw [List.take_succ_eq_append_getElem (by simpa using (by omega : i < ys.length)), List.take_set, List.set_eq_of_length_le (by simp; omega)]
          simp
        rw [h1]
        simp
      rw [e] at this
      exact this
  have := main xs.length 0 ys (by omega) hy
  simpa using this
/-- A loop that compares element by element and finds no difference. -/
theorem eq_loop (L : Nat → Int → Option Bool) (n : Nat) (hstop : ∀ k, L (k + 1) (n : Int) = some true)
    (hstep : ∀ i : Nat, i < n → Ev (fun k => L k ((i + 1 : Nat) : Int)) true → Ev (fun k => L k (i : Int)) true) : Ev (fun k => L k 0) true := by
  have main : ∀ (d i : Nat), i + d = n → Ev (fun k => L k (i : Int)) true := by
    intro d
    induction d with
    | zero =>
      intro i hi
      have hi' : i = n := by omega
      subst hi'
      exact Ev.step (f := fun _ => some true) hstop (Ev.now true)
    | succ d ih => exact fun i hi => hstep i (by omega) (ih (i + 1) (by omega))
  exact main n 0 (by omega)
/-- What is left of a measure, element by element: once it is used up the answer is -1. -/
theorem sz_loop {α : Type} (L : Nat → Int → Int → Option Int) (xs : List α) (Sm : α → Prop)
    (hstop : ∀ k left, L (k + 1) left (xs.length : Int) = some left)
    (hstep : ∀ (i : Nat) (hi : i < xs.length) (left : Int), 0 ≤ left → left ≤ 1048576 → ∃ r, r ≤ left ∧ (r < 0 → Ev (fun k => L k left (i : Int)) (-1)) ∧ (0 ≤ r → Sm xs[i] ∧ ∀ q, Ev (fun k => L k r ((i + 1 : Nat) : Int)) q → Ev (fun k => L k left (i : Int)) q))
    (left : Int) (h0 : 0 ≤ left) (h1 : left ≤ 1048576) : ∃ r, r ≤ left ∧ -1 ≤ r ∧ Ev (fun k => L k left 0) r ∧ (0 ≤ r → ∀ x ∈ xs, Sm x) := by
  have main : ∀ (d i : Nat) (left : Int), i + d = xs.length → 0 ≤ left → left ≤ 1048576 → ∃ r, r ≤ left ∧ -1 ≤ r ∧ Ev (fun k => L k left (i : Int)) r ∧ (0 ≤ r → ∀ (j : Nat) (hj : j < xs.length), i ≤ j → Sm xs[j]) := by
    intro d
    induction d with
    | zero =>
      intro i left hi h0 h1
      have hi' : i = xs.length := by omega
      subst hi'
      exact ⟨left, Int.le_refl _, by omega, Ev.step (f := fun _ => some left) (hstop · left) (Ev.now left), fun _ j hj h => by omega⟩
    | succ d ih =>
      intro i left hi h0 h1
      obtain ⟨r, hr, hneg, hpos⟩ := hstep i (by omega) left h0 h1
      by_cases hr0 : r < 0
      · exact ⟨-1, by omega, by omega, hneg hr0, fun h => by omega⟩
      · obtain ⟨hs, hgo⟩ := hpos (by omega)
        obtain ⟨q, hq, hq1, hev, hall⟩ := ih (i + 1) r (by omega) (by omega) (by omega)
        refine ⟨q, by omega, hq1, hgo q hev, fun h j hj hij => ?_⟩
        by_cases e : j = i
        · subst e
          exact hs
        · exact hall h j hj (by omega)
  obtain ⟨r, hr, hr1, hev, hall⟩ := main xs.length 0 left (by omega) h0 h1
  refine ⟨r, hr, hr1, hev, fun h x hx => ?_⟩
  obtain ⟨j, hj, rfl⟩ := List.mem_iff_getElem.1 hx
  exact hall h j hj (by omega)
end Go.Proofs.Ytcjdgimiobhhnaa.PlGen
