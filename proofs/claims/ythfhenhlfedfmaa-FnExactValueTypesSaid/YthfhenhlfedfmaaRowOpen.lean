/- What comes in as data, opened kind by kind: a value that reads as data of a type is of that type's kind, with its numbers in their ranges and its slices in their bounds. -/
import Derived.Test.YthfhenhlfedfmaaVWords
import Derived.Deep.Slices
import Derived.WideShapes
import Derived.ProofKit
namespace Go.Proofs.Ythfhenhlfedfmaa.RowOpen
open Go.RowKit Go.Proofs.YthfhenhlfedfmaaW.PrintWords
/-- Data of type t open to a value of the kind k that meets Q. -/
structure Opens {α : Type} (P : Program) (k : Kd α) (Q : α → Prop) (t : TypeId) : Prop where
  go : ∀ {H : Type} (enc : TypeId × Value → H) (w : World) (base : Nat) (held : Bool) (n : Nat) (cs : List Value) (y : DataW H × List MemPlace),
    DataW.trod enc P w base (fun _ => true) held n t cs = some y → ∃ x, k.K w x cs ∧ Q x
/-- The same of a struct's fields from off on. -/
structure OpensF {α : Type} (P : Program) (k : Kd α) (Q : α → Prop) (fs : List Field) (off : Nat) : Prop where
  go : ∀ {H : Type} (enc : TypeId × Value → H) (w : World) (base : Nat) (held : Bool) (n : Nat) (cs : List Value) (ys : List (DataW H × List MemPlace)), cs.length = off + k.sz →
    (fs.mapM fun f => DataW.trod enc P w base (fun _ => true) held n f.type ((cs.drop f.offset).take (P.cellsOf f.type))) = some ys → ∃ x, k.K w x (cs.drop off) ∧ Q x
theorem opens_int {P : Program} {t : TypeId} {k : IntKind} (ht : P.underlying t = some (.int k)) : Opens P (Kd.int k) (fun n => (Lit.int k n).wf = true) t := by
  refine ⟨?_⟩
  intro H enc w base held n cs y h
  cases n with
  | zero => simp [DataW.trod] at h
  | succ n =>
    unfold DataW.trod at h
    rw [ht] at h
    match cs, h with
    | [.int k' m], h =>
      by_cases c : k' = k ∧ (Lit.int k m).wf = true
      · obtain ⟨rfl, hw⟩ := c
        exact ⟨m, rfl, hw⟩
      · simp [c] at h
theorem opens_bool {P : Program} {t : TypeId} (ht : P.underlying t = some .bool) : Opens P Kd.bool (fun _ => True) t := by
  refine ⟨?_⟩
  intro H enc w base held n cs y h
  cases n with
  | zero => simp [DataW.trod] at h
  | succ n =>
    unfold DataW.trod at h
    rw [ht] at h
    match cs, h with
    | [.bool b], _ => exact ⟨b, rfl, trivial⟩
theorem opens_string {P : Program} {t : TypeId} (ht : P.underlying t = some .string) : Opens P Kd.string (fun s => s.size ≤ maxLen) t := by
  refine ⟨?_⟩
  intro H enc w base held n cs y h
  cases n with
  | zero => simp [DataW.trod] at h
  | succ n =>
    unfold DataW.trod at h
    rw [ht] at h
    match cs, h with
    | [.string s], h =>
      by_cases c : s.size ≤ maxLen
      · exact ⟨s, rfl, c⟩
      · simp [c] at h
theorem take_of {α : Type} {p : Nat → α → Prop} (m : Nat) (h : ∀ i, i < m → ∃ x, p i x) : ∃ xs : List α, xs.length = m ∧ ∀ i x, xs[i]? = some x → p i x := by
  induction m with
  | zero => exact ⟨[], rfl, fun i x hx => by simp at hx⟩
  | succ m ih =>
    obtain ⟨xs, hl, hp⟩ := ih (fun i hi => h i (by omega))
    obtain ⟨x, hx⟩ := h m (by omega)
    refine ⟨xs ++ [x], by simp [hl], fun i z hz => ?_⟩
    by_cases hi : i < m
    · exact hp i z (by rwa [List.getElem?_append_left (by omega)] at hz)
    · have hlt : i < (xs ++ [x]).length := (List.getElem?_eq_some_iff.1 hz).1
      have hi' : i = m := by simp [hl] at hlt; omega
      subst hi'
      rw [List.getElem?_append_right (by omega)] at hz
      simp [hl] at hz
      rw [← hz]
      exact hx
theorem opens_slice {α : Type} {P : Program} {t e : TypeId} {d : Kd α} {Q : α → Prop} (ht : P.underlying t = some (.slice e)) (hc : P.cellsOf e = d.sz) (h : Opens P d Q e) :
    Opens P (Kd.slice e d) (fun xs => xs.length ≤ maxLen ∧ ∀ x ∈ xs, Q x) t := by
  refine ⟨?_⟩
  intro H enc w base held n cs y hy
  rcases Go.Deep.open_slice ht hy with ⟨rfl, _⟩ | ⟨a, len, cap, m, n', D, Pl, rfl, hb, hl, hm, hmm, _, hx⟩
  · exact ⟨[], ⟨none, 0, rfl, Nat.le_refl _, rfl, by simp, fun h0 => absurd h0 (by simp)⟩, by simp [maxLen], fun x hx => by simp at hx⟩
  · have hlm : len ≤ m := by rw [hmm]; simpa using hl
    obtain ⟨xs, hlen, hxs⟩ := take_of (α := α) (p := fun i x => Q x ∧ ∃ c, c.length = d.sz ∧ d.K w x c ∧ ∀ j u, c[j]? = some u → w.cell? (a.add (i * d.sz + j)) = some u) len (fun i hi => by
      obtain ⟨cs', h1, h2⟩ := hx i (by omega)
      obtain ⟨x, hk, hq⟩ := h.go enc w base held n' cs' _ h2
      rw [hc] at h1
      obtain ⟨_, hlen, hcell⟩ := World.cells?_some h1
      refine ⟨x, hq, cs', hlen, hk, fun j u hu => ?_⟩
      have hj : j < cs'.length := (List.getElem?_eq_some_iff.1 hu).1
      have := hcell j (by omega)
      rw [hu] at this
      rw [← this]
      congr 1
      exact (Go.Deep.add_add a _ _).symm)
    subst hlen
    refine ⟨xs, ⟨some a, cap, rfl, hl, rfl, ?_, fun _ => ⟨a, rfl, fun j p hp => ?_⟩⟩, by omega, fun x hx => ?_⟩
    · simp only [maxLen] at hm
      omega
    · obtain ⟨_, c, h1, h2, h3⟩ := hxs j p hp
      exact ⟨c, h1, h2, h3⟩
    · obtain ⟨i, hi⟩ := List.getElem?_of_mem hx
      exact (hxs i x hi).1
theorem opens_iso {α β : Type} {P : Program} {t : TypeId} {d : Kd α} {Q : α → Prop} (f : β → α) (g : α → β) (hg : ∀ a, f (g a) = a) (h : Opens P d Q t) : Opens P (Kd.iso d f) (fun b => Q (f b)) t := by
  refine ⟨?_⟩
  intro H enc w base held n cs y hy
  obtain ⟨x, hk, hq⟩ := h.go enc w base held n cs y hy
  exact ⟨g x, by show d.K w (f (g x)) cs; rw [hg]; exact hk, by show Q (f (g x)); rw [hg]; exact hq⟩
theorem opensF_one {α : Type} {P : Program} {d : Kd α} {Q : α → Prop} {f : Field} {off : Nat} (h : Opens P d Q f.type) (ho : f.offset = off) (hc : P.cellsOf f.type = d.sz) : OpensF P d Q [f] off := by
  refine ⟨?_⟩
  intro H enc w base held n cs ys hlen hy
  simp only [List.mapM_cons, List.mapM_nil, Option.pure_def, Option.bind_eq_bind] at hy
  obtain ⟨y, h1, _⟩ := Option.bind_eq_some_iff.1 hy
  obtain ⟨x, hk, hq⟩ := h.go enc w base held n _ _ h1
  rw [ho, hc, List.take_of_length_le (by simp; omega)] at hk
  exact ⟨x, hk, hq⟩
theorem opensF_cons {α β : Type} {P : Program} {a : Kd α} {b : Kd β} {Qa : α → Prop} {Qb : β → Prop} {f : Field} {fs : List Field} {off : Nat} (h : Opens P a Qa f.type) (ho : f.offset = off) (hc : P.cellsOf f.type = a.sz)
    (hr : OpensF P b Qb fs (off + a.sz)) : OpensF P (Kd.pair a b) (fun x => Qa x.1 ∧ Qb x.2) (f :: fs) off := by
  refine ⟨?_⟩
  intro H enc w base held n cs ys hlen hy
  have hsz : (Kd.pair a b).sz = a.sz + b.sz := rfl
  rw [hsz] at hlen
  rw [List.mapM_cons] at hy
  simp only [Option.pure_def, Option.bind_eq_bind] at hy
  obtain ⟨y, h1, hy⟩ := Option.bind_eq_some_iff.1 hy
  obtain ⟨zs, h2, _⟩ := Option.bind_eq_some_iff.1 hy
  obtain ⟨x, hk, hq⟩ := h.go enc w base held n _ _ h1
  obtain ⟨z, hk2, hq2⟩ := hr.go enc w base held n cs zs (by omega) h2
  rw [ho, hc] at hk
  refine ⟨(x, z), ⟨_, _, ?_, hk, hk2⟩, hq, hq2⟩
  rw [← List.drop_drop, List.take_append_drop]
theorem opens_struct {α : Type} {P : Program} {t : TypeId} {d : Kd α} {Q : α → Prop} {fs : Array Field} {l : List Field} (ht : P.underlying t = some (.struct fs)) (hl : fs.toList = l) (hc : P.cellsOf t = d.sz) (h : OpensF P d Q l 0) : Opens P d Q t := by
  refine ⟨?_⟩
  intro H enc w base held n cs y hy
  cases n with
  | zero => simp [DataW.trod] at hy
  | succ n =>
    unfold DataW.trod at hy
    rw [ht] at hy
    simp only [hl] at hy
    by_cases c : cs.length = P.cellsOf t
    · rw [if_pos c] at hy
      obtain ⟨ys, h1, _⟩ := Option.map_eq_some_iff.1 hy
      obtain ⟨x, hk, hq⟩ := h.go enc w base held n cs ys (by omega) h1
      exact ⟨x, by simpa using hk, hq⟩
    · rw [if_neg c] at hy
      simp at hy
/-- A struct that came in by value: its cells, and the value written out. -/
theorem open_param {α : Type} {P : Program} {t : TypeId} {d : Kd α} {Q : α → Prop} {fs : Array Field} (h : Opens P d Q t) (ht : P.underlying t = some (.struct fs)) {H : Type} {enc : TypeId × Value → H} {W : World} {r : Reach} {b0 base : Nat} {held : Bool} {v : Value} {x : DataW H} {p : List MemPlace}
    (hv : Value.okWide P W r b0 t v) (hd : DataW.Trod enc P W base (fun _ => true) held t v x p) : ∃ z cs, v = .agg cs ∧ d.K W z cs.toList ∧ Q z := by
  obtain ⟨cs, rfl, _⟩ := Go.WideShapes.okWide_struct ht hv
  obtain ⟨fuel, hf⟩ := hd
  obtain ⟨z, hk, hq⟩ := h.go enc W base held fuel _ _ hf
  exact ⟨z, cs, rfl, hk, hq⟩
theorem array_of_list {cs : Array Value} {l : List Value} (h : cs.toList = l) : cs = l.toArray := by rw [← h]
end Go.Proofs.Ythfhenhlfedfmaa.RowOpen
