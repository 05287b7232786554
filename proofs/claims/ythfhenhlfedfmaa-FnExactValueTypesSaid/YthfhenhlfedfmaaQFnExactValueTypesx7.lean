-- written by mp.py, a program of this session, over the translation; Lean checks it
import Derived.Test.YthfhenhlfedfmaaMWords
import Derived.Test.YthfhenhlfedfmaaMKept
import Derived.Test.YthfhenhlfedfmaaMShare
import Derived.Test.YthfhenhlfedfmaaMMore
import Derived.Test.YthfhenhlfedfmaaQFnExactValueTypesx0
namespace Go.Proofs.Ythfhenhlfedfmaa.QFnExactValueTypes
open Go.RowKit Go.Proofs.YthfhenhlfedfmaaW.PrintWords Go.Proofs.YthfhenhlfedfmaaW.PrintLast Go.Proofs.YthfhenhlfedfmaaW.PrintMore
attribute [local go_sem] max2_int min2_int max_two min_two max_three min_three max_four min_four   -- for this text's walks alone
set_option linter.unusedVariables false
set_option linter.unusedSimpArgs false

/-! ### what a function that marks leaves: every block as it was, but for whole numbers written over whole numbers in the rows it was given -/
def IntCh (u u' : Value) : Prop := u' = u ∨ ∃ (k : IntKind) (z z' : Int), u = Value.int k z ∧ u' = Value.int k z'
theorem IntCh.trans {u u' u2 : Value} (h : IntCh u u') (h' : IntCh u' u2) : IntCh u u2 := by
  rcases h with rfl | ⟨k, z, z', rfl, rfl⟩
  · exact h'
  · rcases h' with rfl | ⟨k2, z2, z3, e, rfl⟩
    · exact .inr ⟨k, z, z', rfl, rfl⟩
    · injection e with e1 e2
      subst e1
      exact .inr ⟨k, z, z3, rfl, rfl⟩
def MW (b : Nat) (S : Nat → Prop) (w W : World) : Prop :=
  Below b w W ∧ Kept w W S ∧ ∀ (g : Nat) (cells : Array Value) (t : TypeId), w.heap[g]? = some (Obj.cells cells t (0, 0)) → ∃ cells' : Array Value, W.heap[g]? = some (Obj.cells cells' t (0, 0)) ∧ ∀ (j : Nat) (u : Value), cells[j]? = some u → ∃ u' : Value, cells'[j]? = some u' ∧ IntCh u u'
theorem MW.refl (b : Nat) (S : Nat → Prop) (w : World) : MW b S w w := ⟨Below.refl _ _, Kept.refl _ _, fun g cells t h => ⟨cells, h, fun j u hu => ⟨u, hu, .inl rfl⟩⟩⟩
theorem MW.trans {b : Nat} {S : Nat → Prop} {w W W2 : World} (h : MW b S w W) (k : MW b S W W2) : MW b S w W2 := by
  refine ⟨⟨k.1.os.trans h.1.os, k.1.tape.trans h.1.tape, k.1.output.trans h.1.output, Nat.le_trans h.1.size k.1.size, fun q hq => (k.1.block q hq).trans (h.1.block q hq)⟩, h.2.1.then_ k.2.1 (fun _ hs => .inl hs), fun g cells t hg => ?_⟩
  obtain ⟨c1, h1, f1⟩ := h.2.2 g cells t hg
  obtain ⟨c2, h2, f2⟩ := k.2.2 g c1 t h1
  refine ⟨c2, h2, fun j u hu => ?_⟩
  obtain ⟨u1, hu1, e1⟩ := f1 j u hu
  obtain ⟨u2, hu2, e2⟩ := f2 j u1 hu1
  exact ⟨u2, hu2, e1.trans e2⟩
theorem MW.mono {b : Nat} {S S' : Nat → Prop} {w W : World} (h : MW b S w W) (hs : ∀ k, S k → S' k) : MW b S' w W := ⟨h.1, h.2.1.mono hs, h.2.2⟩
theorem MW.of_below {b : Nat} {S : Nat → Prop} {w W : World} (h : Below w.heap.size w W) (hb : b ≤ w.heap.size) : MW b S w W :=
  ⟨⟨h.os, h.tape, h.output, h.size, fun q hq => h.block q (by omega)⟩, Kept.of_below h S, fun g cells t hg => ⟨cells, blk_below hg h, fun j u hu => ⟨u, hu, .inl rfl⟩⟩⟩
theorem MW.set {b : Nat} {S : Nat → Prop} {w W : World} (h : MW b S w W) {g : Nat} {cells : Array Value} {t : TypeId} {j : Nat} {k : IntKind} {z : Int} (hh : W.heap[g]? = some (Obj.cells cells t (0, 0))) (hc : cells[j]? = some (Value.int k z)) (hg : b ≤ g) (hs : S g) (z' : Int) : MW b S w (W.setCell ⟨g, j, none⟩ (.int k z')) := by
  refine ⟨h.1.setCell hg _, Kept.setCell h.2.1 (.inl hs) _, fun q c t' hq => ?_⟩
  obtain ⟨c1, h1, f1⟩ := h.2.2 q c t' hq
  by_cases e : q = g
  · subst e
    rw [hh] at h1
    injection h1 with h1
    injection h1 with e1 e2 e3
    subst e1 e2
    refine ⟨_, blk_put hh j (.int k z') rfl, fun i u hu => ?_⟩
    obtain ⟨u1, hu1, e1⟩ := f1 i u hu
    by_cases ei : j = i
    · subst ei
      rw [hc] at hu1
      injection hu1 with hu1
      subst hu1
      have hl : j < cells.size := (Array.getElem?_eq_some_iff.1 hc).1
      exact ⟨.int k z', by simp [hl], e1.trans (.inr ⟨k, z, z', rfl, rfl⟩)⟩
    · exact ⟨u1, by rw [Array.getElem?_setIfInBounds_ne ei]; exact hu1, e1⟩
  · exact ⟨c1, blk_far h1 e _, f1⟩
def IRow (w : World) (b : Nat) (S : Nat → Prop) (e : Nat) (ks : List IntKind) (n : Nat) (v : Value) : Prop :=
  (v = .slice none 0 0 ∧ n = 0) ∨ ∃ (g cap : Nat) (cells : Array Value), v = .slice (some ⟨g, 0, none⟩) n cap ∧ w.heap[g]? = some (Obj.cells cells e (0, 0)) ∧ b ≤ g ∧ S g ∧ ∀ i : Nat, i < n → ∀ (j : Nat) (k : IntKind), ks[j]? = some k → ∃ z : Int, cells[i * ks.length + j]? = some (Value.int k z)
theorem IntCh.int {k : IntKind} {z : Int} {u' : Value} (h : IntCh (.int k z) u') : ∃ z', u' = .int k z' := by
  rcases h with rfl | ⟨k2, z2, z', e, rfl⟩
  · exact ⟨z, rfl⟩
  · injection e with e1 e2
    subst e1
    exact ⟨z', rfl⟩
theorem IRow.move {w W : World} {b : Nat} {S S' : Nat → Prop} {e : Nat} {ks : List IntKind} {n : Nat} {v : Value} (h : IRow w b S e ks n v) (hm : MW b S' w W) : IRow W b S e ks n v := by
  rcases h with h | ⟨g, cap, cells, e1, hh, hb, hs, hc⟩
  · exact .inl h
  · obtain ⟨c1, h1, f1⟩ := hm.2.2 g cells e hh
    refine .inr ⟨g, cap, c1, e1, h1, hb, hs, fun i hi j k hk => ?_⟩
    obtain ⟨z, hz⟩ := hc i hi j k hk
    obtain ⟨u', hu', ch⟩ := f1 _ _ hz
    obtain ⟨z', rfl⟩ := ch.int
    exact ⟨z', hu'⟩
theorem IRow.mono {w : World} {b : Nat} {S S' : Nat → Prop} {e : Nat} {ks : List IntKind} {n : Nat} {v : Value} (h : IRow w b S e ks n v) (hs : ∀ k, S k → S' k) : IRow w b S' e ks n v := by
  rcases h with h | ⟨g, cap, cells, e1, hh, hb, h1, hc⟩
  · exact .inl h
  · exact .inr ⟨g, cap, cells, e1, hh, hb, hs g h1, hc⟩
theorem IRow.slice {w : World} {b : Nat} {S : Nat → Prop} {e : Nat} {ks : List IntKind} {n : Nat} {v : Value} (h : IRow w b S e ks n v) : ∃ A cap, v = .slice A n cap := by
  rcases h with ⟨rfl, rfl⟩ | ⟨g, cap, cells, e1, _⟩
  · exact ⟨none, 0, rfl⟩
  · exact ⟨_, cap, e1⟩
theorem IRow.at {w : World} {b : Nat} {S : Nat → Prop} {e : Nat} {ks : List IntKind} {n : Nat} {A : Option Addr} {cap : Nat} (h : IRow w b S e ks n (.slice A n cap)) {i : Nat} (hi : i < n) : ∃ g, A = some ⟨g, 0, none⟩ := by
  rcases h with ⟨_, rfl⟩ | ⟨g, c2, cells, e1, _⟩
  · omega
  · injection e1 with e1
    exact ⟨g, e1⟩
theorem IRow.cell {w : World} {b : Nat} {S : Nat → Prop} {e : Nat} {ks : List IntKind} {n g cap : Nat} (h : IRow w b S e ks n (.slice (some ⟨g, 0, none⟩) n cap)) {i : Nat} (hi : i < n) : ∃ cells : Array Value, w.heap[g]? = some (Obj.cells cells e (0, 0)) ∧ b ≤ g ∧ S g ∧ ∀ (j : Nat) (k : IntKind), ks[j]? = some k → ∃ z : Int, cells[i * ks.length + j]? = some (Value.int k z) := by
  rcases h with ⟨_, rfl⟩ | ⟨g2, c2, cells, e1, hh, hb, hs, hc⟩
  · omega
  · injection e1 with e1
    injection e1 with e1
    injection e1 with e1
    subst e1
    exact ⟨cells, hh, hb, hs, hc i hi⟩
theorem mk_tk {L : List Value} {a s j : Nat} {u : Value} (h : ((L.drop a).take s)[j]? = some u) : L[a + j]? = some u := by
  rw [List.getElem?_take] at h
  split at h
  · rwa [List.getElem?_drop] at h
  · exact absurd h (by simp)
theorem mk_tk0 {L : List Value} {m q : Nat} {u : Value} (h : (L.take m)[q]? = some u) : L[q]? = some u := by
  rw [List.getElem?_take] at h
  split at h
  · exact h
  · exact absurd h (by simp)
theorem IRow.of_R {α : Type} {d : Kd α} {e : Nat} {w : World} {b : Nat} {S : Nat → Prop} {v : Value} {l : List α} (ks : List IntKind) (hs : d.sz = ks.length) (hM : ∀ ok x cs, d.M w b ok x cs → ∀ (j : Nat) (k : IntKind), ks[j]? = some k → ∃ z : Int, cs[j]? = some (Value.int k z)) (h : d.R e w b S v l) : IRow w b S e ks l.length v := by
  obtain ⟨h0, inner, ho, hr⟩ := h
  rcases ho.2 with ⟨rfl, h1⟩ | ⟨g, cap, cur, rfl, hg, hh, h1, h2, h3, h4⟩
  · exact .inl ⟨rfl, h1⟩
  · refine .inr ⟨g, cap, cur, rfl, hh, hg, h0 g rfl, fun i hi j k hk => ?_⟩
    obtain ⟨z, hz⟩ := hM _ _ _ (hr.2 i l[i] (List.getElem?_eq_getElem hi)) j k hk
    refine ⟨z, ?_⟩
    have := mk_tk hz
    rw [← h4] at this
    have := mk_tk0 this
    rw [hs] at this
    rwa [Array.getElem?_toList] at this
theorem IRow.of_i64 {w : World} {b : Nat} {S : Nat → Prop} {v : Value} {l : List Int} (h : Kd.R (Kd.int .i64) 2 w b S v l) : IRow w b S 2 [.i64] l.length v := by
  refine IRow.of_R [.i64] rfl (fun ok x cs hM j k hk => ?_) h
  obtain rfl : cs = [.int .i64 x] := hM
  match j, hk with
  | 0, hk => injection hk with hk; subst hk; exact ⟨x, rfl⟩
theorem IRow.of_u64 {w : World} {b : Nat} {S : Nat → Prop} {v : Value} {l : List Int} (h : Kd.R (Kd.int .u64) 38 w b S v l) : IRow w b S 38 [.u64] l.length v := by
  refine IRow.of_R [.u64] rfl (fun ok x cs hM j k hk => ?_) h
  obtain rfl : cs = [.int .u64 x] := hM
  match j, hk with
  | 0, hk => injection hk with hk; subst hk; exact ⟨x, rfl⟩
theorem IRow.of_op {w : World} {b : Nat} {S : Nat → Prop} {v : Value} {l : List S152} (h : Kd.R k152 152 w b S v l) : IRow w b S 152 [.i64, .i64, .i64, .u64] l.length v := by
  refine IRow.of_R [.i64, .i64, .i64, .u64] rfl (fun ok x cs hM j k hk => ?_) h
  obtain rfl := k152_openM hM
  match j, hk with
  | 0, hk => injection hk with hk; subst hk; exact ⟨_, rfl⟩
  | 1, hk => injection hk with hk; subst hk; exact ⟨_, rfl⟩
  | 2, hk => injection hk with hk; subst hk; exact ⟨_, rfl⟩
  | 3, hk => injection hk with hk; subst hk; exact ⟨_, rfl⟩
/-- A row of instructions. -/
def NRow (w : World) (b : Nat) (S : Nat → Prop) (xs : List S103) (v : Value) : Prop :=
  (v = .slice none 0 0 ∧ xs = []) ∨ ∃ (g cap : Nat) (cells : Array Value), v = .slice (some ⟨g, 0, none⟩) xs.length cap ∧ w.heap[g]? = some (Obj.cells cells 103 (0, 0)) ∧ b ≤ g ∧ S g ∧ ∀ (i : Nat) x, xs[i]? = some x →
    (∀ j : Nat, j < 6 → ∃ z : Int, cells[i * 9 + j]? = some (Value.int .i64 z)) ∧ (∃ v6 : Value, cells[i * 9 + 6]? = some v6 ∧ IRow w b S 152 [.i64, .i64, .i64, .u64] x.f6.length v6) ∧ (∃ v7 : Value, cells[i * 9 + 7]? = some v7 ∧ IRow w b S 2 [.i64] x.f7.length v7) ∧ (∃ v8 : Value, cells[i * 9 + 8]? = some v8 ∧ IRow w b S 38 [.u64] x.f8.length v8)
theorem IRow.stay {w : World} {b : Nat} {S : Nat → Prop} {e : Nat} {ks : List IntKind} {n : Nat} {v v' : Value} (h : IRow w b S e ks n v) (hc : IntCh v v') : v' = v := by
  rcases hc with rfl | ⟨k, z, z', rfl, rfl⟩
  · rfl
  · obtain ⟨A, cap, e⟩ := h.slice
    exact absurd e (by simp)
theorem NRow.move {w W : World} {b : Nat} {S S' : Nat → Prop} {xs : List S103} {v : Value} (h : NRow w b S xs v) (hm : MW b S' w W) : NRow W b S xs v := by
  rcases h with h | ⟨g, cap, cells, e1, hh, hb, hs, hc⟩
  · exact .inl h
  · obtain ⟨c1, h1, f1⟩ := hm.2.2 g cells 103 hh
    refine .inr ⟨g, cap, c1, e1, h1, hb, hs, fun i x hx => ?_⟩
    obtain ⟨a0, ⟨v6, a6, r6⟩, ⟨v7, a7, r7⟩, ⟨v8, a8, r8⟩⟩ := hc i x hx
    refine ⟨fun j hj => ?_, ?_, ?_, ?_⟩
    · obtain ⟨z, hz⟩ := a0 j hj
      obtain ⟨u', hu', ch⟩ := f1 _ _ hz
      obtain ⟨z', rfl⟩ := ch.int
      exact ⟨z', hu'⟩
    · obtain ⟨u', hu', ch⟩ := f1 _ _ a6
      exact ⟨v6, (r6.stay ch) ▸ hu', r6.move hm⟩
    · obtain ⟨u', hu', ch⟩ := f1 _ _ a7
      exact ⟨v7, (r7.stay ch) ▸ hu', r7.move hm⟩
    · obtain ⟨u', hu', ch⟩ := f1 _ _ a8
      exact ⟨v8, (r8.stay ch) ▸ hu', r8.move hm⟩
theorem NRow.slice {w : World} {b : Nat} {S : Nat → Prop} {xs : List S103} {v : Value} (h : NRow w b S xs v) : ∃ A cap, v = .slice A xs.length cap := by
  rcases h with ⟨rfl, rfl⟩ | ⟨g, cap, cells, e1, _⟩
  · exact ⟨none, 0, rfl⟩
  · exact ⟨_, cap, e1⟩
theorem NRow.mono {w : World} {b : Nat} {S S' : Nat → Prop} {xs : List S103} {v : Value} (h : NRow w b S xs v) (hs : ∀ k, S k → S' k) : NRow w b S' xs v := by
  rcases h with h | ⟨g, cap, cells, e1, hh, hb, h1, hc⟩
  · exact .inl h
  · refine .inr ⟨g, cap, cells, e1, hh, hb, hs g h1, fun i x hx => ?_⟩
    obtain ⟨a0, ⟨v6, a6, r6⟩, ⟨v7, a7, r7⟩, ⟨v8, a8, r8⟩⟩ := hc i x hx
    exact ⟨a0, ⟨v6, a6, r6.mono hs⟩, ⟨v7, a7, r7.mono hs⟩, ⟨v8, a8, r8.mono hs⟩⟩
theorem NRow.of_R {w : World} {b : Nat} {S : Nat → Prop} {v : Value} {xs : List S103} (h : Kd.R k103 103 w b S v xs) : NRow w b S xs v := by
  obtain ⟨h0, inner, ho, hr⟩ := h
  rcases ho.2 with ⟨rfl, h1⟩ | ⟨g, cap, cur, rfl, hg, hh, h1, h2, h3, h4⟩
  · exact .inl ⟨rfl, List.eq_nil_of_length_eq_zero h1⟩
  · refine .inr ⟨g, cap, cur, rfl, hh, hg, h0 g rfl, fun i x hx => ?_⟩
    obtain ⟨v6, v7, v8, ecs, r6, r7, r8⟩ := k103_openM (hr.2 i x hx)
    have cell : ∀ (j : Nat) u, [Value.int .i64 x.f0, .int .i64 x.f1, .int .i64 x.f2, .int .i64 x.f3, .int .i64 x.f4, .int .i64 x.f5, v6, v7, v8][j]? = some u → cur[i * 9 + j]? = some u := by
      intro j u hu
      rw [← ecs] at hu
      have := mk_tk hu
      rw [← h4] at this
      have := mk_tk0 this
      rwa [Array.getElem?_toList] at this
    refine ⟨fun j hj => ?_, ⟨v6, cell 6 _ rfl, (IRow.of_op r6).mono (fun k hk => hk.1)⟩, ⟨v7, cell 7 _ rfl, (IRow.of_i64 r7).mono (fun k hk => hk.1)⟩, ⟨v8, cell 8 _ rfl, (IRow.of_u64 r8).mono (fun k hk => hk.1)⟩⟩
    match j, hj with
    | 0, _ => exact ⟨_, cell 0 _ rfl⟩
    | 1, _ => exact ⟨_, cell 1 _ rfl⟩
    | 2, _ => exact ⟨_, cell 2 _ rfl⟩
    | 3, _ => exact ⟨_, cell 3 _ rfl⟩
    | 4, _ => exact ⟨_, cell 4 _ rfl⟩
    | 5, _ => exact ⟨_, cell 5 _ rfl⟩
/-- A row of blocks. -/
def BRow (w : World) (b : Nat) (S : Nat → Prop) (xs : List S100) (v : Value) : Prop :=
  (v = .slice none 0 0 ∧ xs = []) ∨ ∃ (g cap : Nat) (cells : Array Value), v = .slice (some ⟨g, 0, none⟩) xs.length cap ∧ w.heap[g]? = some (Obj.cells cells 100 (0, 0)) ∧ b ≤ g ∧ S g ∧ ∀ (i : Nat) x, xs[i]? = some x → ∃ v0 : Value, cells[i]? = some v0 ∧ NRow w b S x.f0 v0
theorem BRow.slice {w : World} {b : Nat} {S : Nat → Prop} {xs : List S100} {v : Value} (h : BRow w b S xs v) : ∃ A cap, v = .slice A xs.length cap := by
  rcases h with ⟨rfl, rfl⟩ | ⟨g, cap, cells, e1, _⟩
  · exact ⟨none, 0, rfl⟩
  · exact ⟨_, cap, e1⟩
theorem BRow.move {w W : World} {b : Nat} {S S' : Nat → Prop} {xs : List S100} {v : Value} (h : BRow w b S xs v) (hm : MW b S' w W) : BRow W b S xs v := by
  rcases h with h | ⟨g, cap, cells, e1, hh, hb, hs, hc⟩
  · exact .inl h
  · obtain ⟨c1, h1, f1⟩ := hm.2.2 g cells 100 hh
    refine .inr ⟨g, cap, c1, e1, h1, hb, hs, fun i x hx => ?_⟩
    obtain ⟨v0, a0, r0⟩ := hc i x hx
    obtain ⟨u', hu', ch⟩ := f1 _ _ a0
    have : u' = v0 := by
      rcases ch with rfl | ⟨k, z, z', rfl, rfl⟩
      · rfl
      · obtain ⟨A, cap, e⟩ := r0.slice
        exact absurd e (by simp)
    exact ⟨v0, this ▸ hu', r0.move hm⟩
theorem BRow.mono {w : World} {b : Nat} {S S' : Nat → Prop} {xs : List S100} {v : Value} (h : BRow w b S xs v) (hs : ∀ k, S k → S' k) : BRow w b S' xs v := by
  rcases h with h | ⟨g, cap, cells, e1, hh, hb, h1, hc⟩
  · exact .inl h
  · refine .inr ⟨g, cap, cells, e1, hh, hb, hs g h1, fun i x hx => ?_⟩
    obtain ⟨v0, a0, r0⟩ := hc i x hx
    exact ⟨v0, a0, r0.mono hs⟩
theorem BRow.of_R {w : World} {b : Nat} {S : Nat → Prop} {v : Value} {xs : List S100} (h : Kd.R k100 100 w b S v xs) : BRow w b S xs v := by
  obtain ⟨h0, inner, ho, hr⟩ := h
  rcases ho.2 with ⟨rfl, h1⟩ | ⟨g, cap, cur, rfl, hg, hh, h1, h2, h3, h4⟩
  · exact .inl ⟨rfl, List.eq_nil_of_length_eq_zero h1⟩
  · refine .inr ⟨g, cap, cur, rfl, hh, hg, h0 g rfl, fun i x hx => ?_⟩
    obtain ⟨v0, ecs, r0⟩ := k100_openM (hr.2 i x hx)
    refine ⟨v0, ?_, (NRow.of_R r0).mono (fun k hk => hk.1)⟩
    have hu : [v0][0]? = some v0 := rfl
    rw [← ecs] at hu
    have := mk_tk hu
    rw [← h4] at this
    have := mk_tk0 this
    rw [Array.getElem?_toList] at this
    simpa [show k100.sz = 1 from rfl] using this
def szI (x : S103) : Nat := 6 + 4 * x.f6.length + x.f7.length + x.f8.length
def szN (xs : List S103) : Nat := (xs.map szI).sum
def szB (xs : List S100) : Nat := (xs.map (fun x => szN x.f0)).sum
theorem sum_next {α : Type} (f : α → Nat) {xs : List α} {i : Nat} {x : α} (h : xs[i]? = some x) : ((xs.take (i + 1)).map f).sum = ((xs.take i).map f).sum + f x := by
  rw [List.take_add_one, h]
  simp
theorem sum_le {α : Type} (f : α → Nat) (xs : List α) (m : Nat) : ((xs.take m).map f).sum ≤ (xs.map f).sum := by
  have e : (xs.map f).sum = ((xs.take m).map f).sum + ((xs.drop m).map f).sum := by
    rw [← List.sum_append, ← List.map_append, List.take_append_drop]
  omega
theorem NRow.at {w : World} {b : Nat} {S : Nat → Prop} {xs : List S103} {A : Option Addr} {cap : Nat} (h : NRow w b S xs (.slice A xs.length cap)) {i : Nat} (hi : i < xs.length) : ∃ g, A = some ⟨g, 0, none⟩ := by
  rcases h with ⟨_, rfl⟩ | ⟨g, c2, cells, e1, _⟩
  · simp at hi
  · injection e1 with e1
    exact ⟨g, e1⟩
theorem NRow.cell {w : World} {b : Nat} {S : Nat → Prop} {xs : List S103} {g cap : Nat} (h : NRow w b S xs (.slice (some ⟨g, 0, none⟩) xs.length cap)) {i : Nat} {x : S103} (hx : xs[i]? = some x) : ∃ cells : Array Value, w.heap[g]? = some (Obj.cells cells 103 (0, 0)) ∧ b ≤ g ∧ S g ∧
    (∀ j : Nat, j < 6 → ∃ z : Int, cells[i * 9 + j]? = some (Value.int .i64 z)) ∧ (∃ v6 : Value, cells[i * 9 + 6]? = some v6 ∧ IRow w b S 152 [.i64, .i64, .i64, .u64] x.f6.length v6) ∧ (∃ v7 : Value, cells[i * 9 + 7]? = some v7 ∧ IRow w b S 2 [.i64] x.f7.length v7) ∧ (∃ v8 : Value, cells[i * 9 + 8]? = some v8 ∧ IRow w b S 38 [.u64] x.f8.length v8) := by
  rcases h with ⟨_, rfl⟩ | ⟨g2, c2, cells, e1, hh, hb, hs, hc⟩
  · simp at hx
  · injection e1 with e1
    injection e1 with e1
    injection e1 with e1
    subst e1
    exact ⟨cells, hh, hb, hs, hc i x hx⟩
theorem BRow.at {w : World} {b : Nat} {S : Nat → Prop} {xs : List S100} {A : Option Addr} {cap : Nat} (h : BRow w b S xs (.slice A xs.length cap)) {i : Nat} (hi : i < xs.length) : ∃ g, A = some ⟨g, 0, none⟩ := by
  rcases h with ⟨_, rfl⟩ | ⟨g, c2, cells, e1, _⟩
  · simp at hi
  · injection e1 with e1
    exact ⟨g, e1⟩
theorem BRow.cell {w : World} {b : Nat} {S : Nat → Prop} {xs : List S100} {g cap : Nat} (h : BRow w b S xs (.slice (some ⟨g, 0, none⟩) xs.length cap)) {i : Nat} {x : S100} (hx : xs[i]? = some x) : ∃ cells : Array Value, w.heap[g]? = some (Obj.cells cells 100 (0, 0)) ∧ ∃ v0 : Value, cells[i]? = some v0 ∧ NRow w b S x.f0 v0 := by
  rcases h with ⟨_, rfl⟩ | ⟨g2, c2, cells, e1, hh, hb, hs, hc⟩
  · simp at hx
  · injection e1 with e1
    injection e1 with e1
    injection e1 with e1
    subst e1
    exact ⟨cells, hh, hc i x hx⟩
theorem len_szN (xs : List S103) : xs.length ≤ szN xs := by
  induction xs with
  | nil => simp [szN]
  | cons x xs ih =>
    have : szN (x :: xs) = szI x + szN xs := by simp [szN]
    rw [this, List.length_cons]
    unfold szI
    omega
theorem R_tight2 {α : Type} {d : Kd α} {e : Nat} {w : World} {base : Nat} {ok : Nat → Prop} {v : Value} {xs : List α} (hE : d.E = []) (h : d.R e w base ok v xs) : d.R e w base (fun k => ok k ∧ some k = v.ownBlock) v xs := Kd.R_mono (Kd.R_tight hE h) (fun k hk => ⟨h.1 k hk.symm, hk⟩)
theorem mk_w {x : Int} (h0 : -9223372036854775808 ≤ x) (h1 : x ≤ 9223372036854775807) : wrap64 x = x := by
  unfold wrap64
  omega
theorem mk_w4 (x : Int) (h0 : 0 ≤ x) (h1 : x ≤ 9000000000000000000) : wrap64 ((wrap64 ((wrap64 ((wrap64 (x + 1)) + 1)) + 1)) + 1) = x + 4 := by
  rw [mk_w (x := x + 1) (by omega) (by omega), mk_w (x := x + 1 + 1) (by omega) (by omega), mk_w (x := x + 1 + 1 + 1) (by omega) (by omega), mk_w (by omega) (by omega)]
  omega
theorem mk_w6 (x : Int) (h0 : 0 ≤ x) (h1 : x ≤ 9000000000000000000) : wrap64 ((wrap64 ((wrap64 ((wrap64 ((wrap64 ((wrap64 (x + 1)) + 1)) + 1)) + 1)) + 1)) + 1) = x + 6 := by
  rw [mk_w4 x h0 h1, mk_w (x := x + 4 + 1) (by omega) (by omega), mk_w (by omega) (by omega)]
  omega
set_option maxHeartbeats 4000000 in
set_option maxRecDepth 100000 in
theorem mk_int64 (b : Nat) (S : Nat → Prop) (n : Nat) (v : Value) (a1 : Int) (w : World) (hv : IRow w b S 2 [.i64] n v) (h0 : 0 ≤ a1) (h1 : a1 + n ≤ 9000000000000000000) :
    Calls Try.prog 22 #[v, .int .i64 a1] w fun e w' => e = .returned (.int .i64 (a1 + n)) ∧ MW b S w w' := by
  obtain ⟨A, cap, rfl⟩ := hv.slice
  have HV := Aside0.mk hv
  have HA := Aside0.mk (And.intro h0 h1)
  clear hv h0 h1
  go_enter Try.func22, Try.ntmps22
  go_wp2
  go_loopg [1, 5] n (fun kq v1 v5 w' => ∃ (x1_1 x5_1 : Int), v1 = .int .i64 x1_1 ∧ v5 = .int .i64 x5_1 ∧ Aside0 (0 ≤ x5_1 ∧ x5_1 + kq = n ∧ x1_1 = a1 + x5_1) ∧ Aside0 (MW b S w w'))
  case atStart => exact ⟨a1, 0, rfl, rfl, ⟨by omega⟩, ⟨MW.refl _ _ _⟩⟩
  case round =>
    obtain ⟨x1_1, x5_1, rfl, rfl, HI, HM⟩ := hrel
    cases gk with
    | zero =>
      have c3b0 : decide (x5_1 < (n : Int)) = false := decide_eq_false (by have := HI.out; omega)
      go_wp2
      go_ret
      exact ⟨by rw [show x1_1 = a1 + n by have := HI.out; omega]; rfl, HM.out⟩
    | succ k1 =>
      have c3b0 : decide (x5_1 < (n : Int)) = true := decide_eq_true (by have := HI.out; omega)
      have c4b0 : decide (0 ≤ x5_1) = true := decide_eq_true (by have := HI.out; omega)
      obtain ⟨g, rfl⟩ := HV.out.at (i := x5_1.toNat) (by have := HI.out; omega)
      obtain ⟨cells, hh, hg, hs, hc⟩ := (HV.out.move HM.out).cell (i := x5_1.toNat) (by have := HI.out; omega)
      obtain ⟨z, hz⟩ := hc 0 _ rfl
      replace hz : cells[x5_1.toNat]? = some (Value.int .i64 z) := by simpa using hz
      have hx : wr.cell? ⟨g, x5_1.toNat, none⟩ = some (.int .i64 z) := (blk_cell hh _).trans hz
      have hf := blk_frozen hh x5_1.toNat
      have p5 : (0 ≤ x5_1) = True := eq_true (by have := HI.out; omega)
      have q5 : (x5_1 < (n : Int)) = True := eq_true (by have := HI.out; omega)
      have HP := Aside0.mk (MW.set HM.out hh hz hg hs (x1_1))
      clear hc hz hh hg hs
      go_wp2_with (first | ((with_reducible refine gate_store (t := 2) (p := 15) rfl ?_); refine store_event (t := 2) (p := 15) (v := ?vo_w8) (w1 := (wr.setCell ⟨g, (x5_1 : Int).toNat, none⟩ (.int .i64 (x1_1)))) ?hg ?ho ?hn ?hr ?_; (case ho => rfl); (case hg => rfl); (case hn => rfl); (case hr => first | (go_simp; done) | (go_simp; rfl)); intro w8 hw; have n0_ := Aside0.mk (show MW b S w w8 by rw [hw]; exact HP.out); clear HM HP hx hf hw; have HM := n0_; clear n0_))
      go_roundg k1
      case measure => omega
      case rel => exact ⟨wrap64 (x1_1 + 1), wrap64 (x5_1 + 1), rfl, rfl, ⟨by have := HI.out; have := HA.out; rw [mk_w (by omega) (by omega), mk_w (by omega) (by omega)]; omega⟩, HM⟩
set_option maxHeartbeats 4000000 in
set_option maxRecDepth 100000 in
theorem mk_uint64 (b : Nat) (S : Nat → Prop) (n : Nat) (v : Value) (a1 : Int) (w : World) (hv : IRow w b S 38 [.u64] n v) (h0 : 0 ≤ a1) (h1 : a1 + n ≤ 9000000000000000000) :
    Calls Try.prog 117 #[v, .int .i64 a1] w fun e w' => e = .returned (.int .i64 (a1 + n)) ∧ MW b S w w' := by
  obtain ⟨A, cap, rfl⟩ := hv.slice
  have HV := Aside0.mk hv
  have HA := Aside0.mk (And.intro h0 h1)
  clear hv h0 h1
  go_enter Try.func117, Try.ntmps117
  go_wp2
  go_loopg [1, 5] n (fun kq v1 v5 w' => ∃ (x1_1 x5_1 : Int), v1 = .int .i64 x1_1 ∧ v5 = .int .i64 x5_1 ∧ Aside0 (0 ≤ x5_1 ∧ x5_1 + kq = n ∧ x1_1 = a1 + x5_1) ∧ Aside0 (MW b S w w'))
  case atStart => exact ⟨a1, 0, rfl, rfl, ⟨by omega⟩, ⟨MW.refl _ _ _⟩⟩
  case round =>
    obtain ⟨x1_1, x5_1, rfl, rfl, HI, HM⟩ := hrel
    cases gk with
    | zero =>
      have c3b0 : decide (x5_1 < (n : Int)) = false := decide_eq_false (by have := HI.out; omega)
      go_wp2
      go_ret
      exact ⟨by rw [show x1_1 = a1 + n by have := HI.out; omega]; rfl, HM.out⟩
    | succ k1 =>
      have c3b0 : decide (x5_1 < (n : Int)) = true := decide_eq_true (by have := HI.out; omega)
      have c4b0 : decide (0 ≤ x5_1) = true := decide_eq_true (by have := HI.out; omega)
      obtain ⟨g, rfl⟩ := HV.out.at (i := x5_1.toNat) (by have := HI.out; omega)
      obtain ⟨cells, hh, hg, hs, hc⟩ := (HV.out.move HM.out).cell (i := x5_1.toNat) (by have := HI.out; omega)
      obtain ⟨z, hz⟩ := hc 0 _ rfl
      replace hz : cells[x5_1.toNat]? = some (Value.int .u64 z) := by simpa using hz
      have hx : wr.cell? ⟨g, x5_1.toNat, none⟩ = some (.int .u64 z) := (blk_cell hh _).trans hz
      have hf := blk_frozen hh x5_1.toNat
      have p5 : (0 ≤ x5_1) = True := eq_true (by have := HI.out; omega)
      have q5 : (x5_1 < (n : Int)) = True := eq_true (by have := HI.out; omega)
      have HP := Aside0.mk (MW.set HM.out hh hz hg hs (IntKind.u64.wrap (x1_1)))
      clear hc hz hh hg hs
      go_wp2_with (first | ((with_reducible refine gate_store (t := 38) (p := 16) rfl ?_); refine store_event (t := 38) (p := 16) (v := ?vo_w8) (w1 := (wr.setCell ⟨g, (x5_1 : Int).toNat, none⟩ (.int .u64 (IntKind.u64.wrap (x1_1))))) ?hg ?ho ?hn ?hr ?_; (case ho => rfl); (case hg => rfl); (case hn => rfl); (case hr => first | (go_simp; done) | (go_simp; rfl)); intro w8 hw; have n0_ := Aside0.mk (show MW b S w w8 by rw [hw]; exact HP.out); clear HM HP hx hf hw; have HM := n0_; clear n0_))
      go_roundg k1
      case measure => omega
      case rel => exact ⟨wrap64 (x1_1 + 1), wrap64 (x5_1 + 1), rfl, rfl, ⟨by have := HI.out; have := HA.out; rw [mk_w (by omega) (by omega), mk_w (by omega) (by omega)]; omega⟩, HM⟩
set_option maxHeartbeats 4000000 in
set_option maxRecDepth 100000 in
theorem mk_oper (b : Nat) (S : Nat → Prop) (n : Nat) (v : Value) (a1 : Int) (w : World) (hv : IRow w b S 152 [.i64, .i64, .i64, .u64] n v) (h0 : 0 ≤ a1) (h1 : a1 + 4 * n ≤ 9000000000000000000) :
    Calls Try.prog 116 #[v, .int .i64 a1] w fun e w' => e = .returned (.int .i64 (a1 + 4 * n)) ∧ MW b S w w' := by
  obtain ⟨A, cap, rfl⟩ := hv.slice
  have HV := Aside0.mk hv
  have HA := Aside0.mk (And.intro h0 h1)
  clear hv h0 h1
  have hu152 := Try.underlying152
  go_enter Try.func116, Try.ntmps116
  go_wp2
  go_loopg [1, 5] n (fun kq v1 v5 w' => ∃ (x1_1 x5_1 : Int), v1 = .int .i64 x1_1 ∧ v5 = .int .i64 x5_1 ∧ Aside0 (0 ≤ x5_1 ∧ x5_1 + kq = n ∧ x1_1 = a1 + 4 * x5_1) ∧ Aside0 (MW b S w w'))
  case atStart => exact ⟨a1, 0, rfl, rfl, ⟨by omega⟩, ⟨MW.refl _ _ _⟩⟩
  case round =>
    obtain ⟨x1_1, x5_1, rfl, rfl, HI, HM⟩ := hrel
    cases gk with
    | zero =>
      have c3b0 : decide (x5_1 < (n : Int)) = false := decide_eq_false (by have := HI.out; omega)
      go_wp2
      go_ret
      exact ⟨by rw [show x1_1 = a1 + 4 * n by have := HI.out; omega]; rfl, HM.out⟩
    | succ k1 =>
      have c3b0 : decide (x5_1 < (n : Int)) = true := decide_eq_true (by have := HI.out; omega)
      have c4b0 : decide (0 ≤ x5_1) = true := decide_eq_true (by have := HI.out; omega)
      obtain ⟨g, rfl⟩ := HV.out.at (i := x5_1.toNat) (by have := HI.out; omega)
      obtain ⟨cells, hh, hg, hs, hc⟩ := (HV.out.move HM.out).cell (i := x5_1.toNat) (by have := HI.out; omega)
      obtain ⟨z, hz⟩ := hc 0 _ rfl
      replace hz : cells[x5_1.toNat * 4]? = some (Value.int .i64 z) := hz
      have hx : wr.cell? ⟨g, x5_1.toNat * 4, none⟩ = some (.int .i64 z) := (blk_cell hh _).trans hz
      have hf := blk_frozen hh (x5_1.toNat * 4)
      have HP := Aside0.mk (MW.set HM.out hh hz hg hs (x1_1))
      clear hc hz hh hg hs
      have p5 : (0 ≤ x5_1) = True := eq_true (by have := HI.out; omega)
      have q5 : (x5_1 < (n : Int)) = True := eq_true (by have := HI.out; omega)
      go_wp2_with (first | ((with_reducible refine gate_store (t := 2) (p := 16) rfl ?_); refine store_event (t := 2) (p := 16) (v := ?vo_v0_) (w1 := (wr.setCell ⟨g, (x5_1 : Int).toNat * 4, none⟩ (.int .i64 (x1_1)))) ?hg ?ho ?hn ?hr ?_; (case ho => rfl); (case hg => rfl); (case hn => rfl); (case hr => first | (go_simp; done) | (go_simp; rfl)); intro v0_ hw; have n0_ := Aside0.mk (show MW b S w v0_ by rw [hw]; exact HP.out); clear HM HP hx hf hw; have HM := n0_; clear n0_; obtain ⟨cells, hh, hg, hs, hc⟩ := (HV.out.move HM.out).cell (i := x5_1.toNat) (by have := HI.out; omega); obtain ⟨z, hz⟩ := hc 1 _ rfl; replace hz : cells[x5_1.toNat * 4 + 1]? = some (Value.int .i64 z) := hz; have hx : v0_.cell? ⟨g, x5_1.toNat * 4 + 1, none⟩ = some (.int .i64 z) := (blk_cell hh _).trans hz; have hf := blk_frozen hh (x5_1.toNat * 4 + 1); have HP := Aside0.mk (MW.set HM.out hh hz hg hs (wrap64 (x1_1 + 1))); clear hc hz hh hg hs) | ((with_reducible refine gate_store (t := 2) (p := 23) rfl ?_); refine store_event (t := 2) (p := 23) (v := ?vo_v1_) (w1 := (v0_.setCell ⟨g, (x5_1 : Int).toNat * 4 + 1, none⟩ (.int .i64 (wrap64 (x1_1 + 1))))) ?hg ?ho ?hn ?hr ?_; (case ho => rfl); (case hg => rfl); (case hn => rfl); (case hr => first | (go_simp; done) | (go_simp; rfl)); intro v1_ hw; have n0_ := Aside0.mk (show MW b S w v1_ by rw [hw]; exact HP.out); clear HM HP hx hf hw; have HM := n0_; clear n0_; obtain ⟨cells, hh, hg, hs, hc⟩ := (HV.out.move HM.out).cell (i := x5_1.toNat) (by have := HI.out; omega); obtain ⟨z, hz⟩ := hc 2 _ rfl; replace hz : cells[x5_1.toNat * 4 + 2]? = some (Value.int .i64 z) := hz; have hx : v1_.cell? ⟨g, x5_1.toNat * 4 + 2, none⟩ = some (.int .i64 z) := (blk_cell hh _).trans hz; have hf := blk_frozen hh (x5_1.toNat * 4 + 2); have HP := Aside0.mk (MW.set HM.out hh hz hg hs (wrap64 ((wrap64 (x1_1 + 1)) + 1))); clear hc hz hh hg hs) | ((with_reducible refine gate_store (t := 2) (p := 30) rfl ?_); refine store_event (t := 2) (p := 30) (v := ?vo_v2_) (w1 := (v1_.setCell ⟨g, (x5_1 : Int).toNat * 4 + 2, none⟩ (.int .i64 (wrap64 ((wrap64 (x1_1 + 1)) + 1))))) ?hg ?ho ?hn ?hr ?_; (case ho => rfl); (case hg => rfl); (case hn => rfl); (case hr => first | (go_simp; done) | (go_simp; rfl)); intro v2_ hw; have n0_ := Aside0.mk (show MW b S w v2_ by rw [hw]; exact HP.out); clear HM HP hx hf hw; have HM := n0_; clear n0_; obtain ⟨cells, hh, hg, hs, hc⟩ := (HV.out.move HM.out).cell (i := x5_1.toNat) (by have := HI.out; omega); obtain ⟨z, hz⟩ := hc 3 _ rfl; replace hz : cells[x5_1.toNat * 4 + 3]? = some (Value.int .u64 z) := hz; have hx : v2_.cell? ⟨g, x5_1.toNat * 4 + 3, none⟩ = some (.int .u64 z) := (blk_cell hh _).trans hz; have hf := blk_frozen hh (x5_1.toNat * 4 + 3); have HP := Aside0.mk (MW.set HM.out hh hz hg hs (IntKind.u64.wrap (wrap64 ((wrap64 ((wrap64 (x1_1 + 1)) + 1)) + 1)))); clear hc hz hh hg hs) | ((with_reducible refine gate_store (t := 38) (p := 38) rfl ?_); refine store_event (t := 38) (p := 38) (v := ?vo_v3_) (w1 := (v2_.setCell ⟨g, (x5_1 : Int).toNat * 4 + 3, none⟩ (.int .u64 (IntKind.u64.wrap (wrap64 ((wrap64 ((wrap64 (x1_1 + 1)) + 1)) + 1)))))) ?hg ?ho ?hn ?hr ?_; (case ho => rfl); (case hg => rfl); (case hn => rfl); (case hr => first | (go_simp; done) | (go_simp; rfl)); intro v3_ hw; have n0_ := Aside0.mk (show MW b S w v3_ by rw [hw]; exact HP.out); clear HM HP hx hf hw; have HM := n0_; clear n0_))
      go_roundg k1
      case measure => omega
      case rel => exact ⟨wrap64 ((wrap64 ((wrap64 ((wrap64 (x1_1 + 1)) + 1)) + 1)) + 1), wrap64 (x5_1 + 1), rfl, rfl, ⟨by have := HI.out; have := HA.out; rw [mk_w4 x1_1 (by omega) (by omega), mk_w (by omega) (by omega)]; omega⟩, HM⟩
set_option maxHeartbeats 4000000 in
set_option maxRecDepth 100000 in
theorem mk_instr (b : Nat) (S : Nat → Prop) (xs : List S103) (v : Value) (a1 : Int) (w : World) (hv : NRow w b S xs v) (h0 : 0 ≤ a1) (h1 : a1 + (szN xs : Nat) ≤ 9000000000000000000) :
    Calls Try.prog 110 #[v, .int .i64 a1] w fun e w' => e = .returned (.int .i64 (a1 + (szN xs : Nat))) ∧ MW b S w w' := by
  obtain ⟨A, cap, rfl⟩ := hv.slice
  have HV := Aside0.mk hv
  have HA := Aside0.mk (And.intro h0 h1)
  clear hv h0 h1
  have hu103 := Try.underlying103
  go_enter Try.func110, Try.ntmps110
  go_wp2
  go_loopg [1, 5] xs.length (fun kq v1 v5 w' => ∃ (x1_1 x5_1 : Int), v1 = .int .i64 x1_1 ∧ v5 = .int .i64 x5_1 ∧ Aside0 (0 ≤ x5_1 ∧ x5_1 + kq = xs.length ∧ x1_1 = a1 + (szN (xs.take x5_1.toNat) : Nat)) ∧ Aside0 (MW b S w w'))
  case atStart => exact ⟨a1, 0, rfl, rfl, ⟨by simp [szN]⟩, ⟨MW.refl _ _ _⟩⟩
  case round =>
    obtain ⟨x1_1, x5_1, rfl, rfl, HI, HM⟩ := hrel
    cases gk with
    | zero =>
      have c3b0 : decide (x5_1 < (xs.length : Int)) = false := decide_eq_false (by have := HI.out; omega)
      go_wp2
      go_ret
      exact ⟨by rw [show x1_1 = a1 + (szN xs : Nat) by rw [HI.out.2.2, List.take_of_length_le (by have := HI.out; omega)]]; rfl, HM.out⟩
    | succ k1 =>
      have c3b0 : decide (x5_1 < (xs.length : Int)) = true := decide_eq_true (by have := HI.out; omega)
      have c4b0 : decide (0 ≤ x5_1) = true := decide_eq_true (by have := HI.out; omega)
      obtain ⟨x, hxx⟩ : ∃ x, xs[x5_1.toNat]? = some x := ⟨_, List.getElem?_eq_getElem (by have := HI.out; omega)⟩
      have HX := Aside0.mk hxx
      have HZ : Aside0 (0 ≤ x1_1 ∧ x1_1 + 6 + 4 * (x.f6.length : Int) + (x.f7.length : Int) + (x.f8.length : Int) ≤ 9000000000000000000 ∧ x1_1 + 6 + 4 * (x.f6.length : Int) + (x.f7.length : Int) + (x.f8.length : Int) = a1 + (szN (xs.take (x5_1.toNat + 1)) : Nat)) := by
        have e1 := sum_next szI hxx
        have e2 := sum_le szI xs (x5_1.toNat + 1)
        have := HI.out
        have := HA.out
        unfold szN at *
        rw [e1] at e2 ⊢
        unfold szI at *
        exact ⟨by omega⟩
      clear hxx
      have HK6 : Aside0 (wrap64 ((wrap64 ((wrap64 ((wrap64 ((wrap64 ((wrap64 (x1_1 + 1)) + 1)) + 1)) + 1)) + 1)) + 1) = x1_1 + 6) := ⟨mk_w6 x1_1 HZ.out.1 (by have := HZ.out; omega)⟩
      obtain ⟨g, rfl⟩ := HV.out.at (i := x5_1.toNat) (by have := HI.out; omega)
      obtain ⟨cells, hh, hg, hs, hc, ⟨q6_, a6_, r6_⟩, ⟨q7_, a7_, r7_⟩, ⟨q8_, a8_, r8_⟩⟩ := (HV.out.move HM.out).cell HX.out
      obtain ⟨z, hz⟩ := hc 0 (by decide)
      replace hz : cells[x5_1.toNat * 9]? = some (Value.int .i64 z) := hz
      have hx : wr.cell? ⟨g, x5_1.toNat * 9, none⟩ = some (.int .i64 z) := (blk_cell hh _).trans hz
      have hf := blk_frozen hh (x5_1.toNat * 9)
      have HP := Aside0.mk (MW.set HM.out hh hz hg hs (x1_1))
      clear hc hz hh hg hs a6_ r6_ a7_ r7_ a8_ r8_ q6_ q7_ q8_
      have p5 : (0 ≤ x5_1) = True := eq_true (by have := HI.out; omega)
      have q5 : (x5_1 < (xs.length : Int)) = True := eq_true (by have := HI.out; omega)
      go_wp2_with (first | ((with_reducible refine gate_store (t := 2) (p := 16) rfl ?_); refine store_event (t := 2) (p := 16) (v := ?vo_v0_) (w1 := (wr.setCell ⟨g, (x5_1 : Int).toNat * 9, none⟩ (.int .i64 (x1_1)))) ?hg ?ho ?hn ?hr ?_; (case ho => rfl); (case hg => rfl); (case hn => rfl); (case hr => first | (go_simp; done) | (go_simp; rfl)); intro v0_ hw; have n0_ := Aside0.mk (show MW b S w v0_ by rw [hw]; exact HP.out); clear HM HP hx hf hw; have HM := n0_; clear n0_; obtain ⟨cells, hh, hg, hs, hc, ⟨q6_, a6_, r6_⟩, ⟨q7_, a7_, r7_⟩, ⟨q8_, a8_, r8_⟩⟩ := (HV.out.move HM.out).cell HX.out; obtain ⟨z, hz⟩ := hc 1 (by decide); replace hz : cells[x5_1.toNat * 9 + 1]? = some (Value.int .i64 z) := hz; have hx : v0_.cell? ⟨g, x5_1.toNat * 9 + 1, none⟩ = some (.int .i64 z) := (blk_cell hh _).trans hz; have hf := blk_frozen hh (x5_1.toNat * 9 + 1); have HP := Aside0.mk (MW.set HM.out hh hz hg hs (wrap64 (x1_1 + 1))); clear hc hz hh hg hs a6_ r6_ a7_ r7_ a8_ r8_ q6_ q7_ q8_) | ((with_reducible refine gate_store (t := 2) (p := 23) rfl ?_); refine store_event (t := 2) (p := 23) (v := ?vo_v1_) (w1 := (v0_.setCell ⟨g, (x5_1 : Int).toNat * 9 + 1, none⟩ (.int .i64 (wrap64 (x1_1 + 1))))) ?hg ?ho ?hn ?hr ?_; (case ho => rfl); (case hg => rfl); (case hn => rfl); (case hr => first | (go_simp; done) | (go_simp; rfl)); intro v1_ hw; have n0_ := Aside0.mk (show MW b S w v1_ by rw [hw]; exact HP.out); clear HM HP hx hf hw; have HM := n0_; clear n0_; obtain ⟨cells, hh, hg, hs, hc, ⟨q6_, a6_, r6_⟩, ⟨q7_, a7_, r7_⟩, ⟨q8_, a8_, r8_⟩⟩ := (HV.out.move HM.out).cell HX.out; obtain ⟨z, hz⟩ := hc 2 (by decide); replace hz : cells[x5_1.toNat * 9 + 2]? = some (Value.int .i64 z) := hz; have hx : v1_.cell? ⟨g, x5_1.toNat * 9 + 2, none⟩ = some (.int .i64 z) := (blk_cell hh _).trans hz; have hf := blk_frozen hh (x5_1.toNat * 9 + 2); have HP := Aside0.mk (MW.set HM.out hh hz hg hs (wrap64 ((wrap64 (x1_1 + 1)) + 1))); clear hc hz hh hg hs a6_ r6_ a7_ r7_ a8_ r8_ q6_ q7_ q8_) | ((with_reducible refine gate_store (t := 2) (p := 30) rfl ?_); refine store_event (t := 2) (p := 30) (v := ?vo_v2_) (w1 := (v1_.setCell ⟨g, (x5_1 : Int).toNat * 9 + 2, none⟩ (.int .i64 (wrap64 ((wrap64 (x1_1 + 1)) + 1))))) ?hg ?ho ?hn ?hr ?_; (case ho => rfl); (case hg => rfl); (case hn => rfl); (case hr => first | (go_simp; done) | (go_simp; rfl)); intro v2_ hw; have n0_ := Aside0.mk (show MW b S w v2_ by rw [hw]; exact HP.out); clear HM HP hx hf hw; have HM := n0_; clear n0_; obtain ⟨cells, hh, hg, hs, hc, ⟨q6_, a6_, r6_⟩, ⟨q7_, a7_, r7_⟩, ⟨q8_, a8_, r8_⟩⟩ := (HV.out.move HM.out).cell HX.out; obtain ⟨z, hz⟩ := hc 3 (by decide); replace hz : cells[x5_1.toNat * 9 + 3]? = some (Value.int .i64 z) := hz; have hx : v2_.cell? ⟨g, x5_1.toNat * 9 + 3, none⟩ = some (.int .i64 z) := (blk_cell hh _).trans hz; have hf := blk_frozen hh (x5_1.toNat * 9 + 3); have HP := Aside0.mk (MW.set HM.out hh hz hg hs (wrap64 ((wrap64 ((wrap64 (x1_1 + 1)) + 1)) + 1))); clear hc hz hh hg hs a6_ r6_ a7_ r7_ a8_ r8_ q6_ q7_ q8_) | ((with_reducible refine gate_store (t := 2) (p := 37) rfl ?_); refine store_event (t := 2) (p := 37) (v := ?vo_v3_) (w1 := (v2_.setCell ⟨g, (x5_1 : Int).toNat * 9 + 3, none⟩ (.int .i64 (wrap64 ((wrap64 ((wrap64 (x1_1 + 1)) + 1)) + 1))))) ?hg ?ho ?hn ?hr ?_; (case ho => rfl); (case hg => rfl); (case hn => rfl); (case hr => first | (go_simp; done) | (go_simp; rfl)); intro v3_ hw; have n0_ := Aside0.mk (show MW b S w v3_ by rw [hw]; exact HP.out); clear HM HP hx hf hw; have HM := n0_; clear n0_; obtain ⟨cells, hh, hg, hs, hc, ⟨q6_, a6_, r6_⟩, ⟨q7_, a7_, r7_⟩, ⟨q8_, a8_, r8_⟩⟩ := (HV.out.move HM.out).cell HX.out; obtain ⟨z, hz⟩ := hc 4 (by decide); replace hz : cells[x5_1.toNat * 9 + 4]? = some (Value.int .i64 z) := hz; have hx : v3_.cell? ⟨g, x5_1.toNat * 9 + 4, none⟩ = some (.int .i64 z) := (blk_cell hh _).trans hz; have hf := blk_frozen hh (x5_1.toNat * 9 + 4); have HP := Aside0.mk (MW.set HM.out hh hz hg hs (wrap64 ((wrap64 ((wrap64 ((wrap64 (x1_1 + 1)) + 1)) + 1)) + 1))); clear hc hz hh hg hs a6_ r6_ a7_ r7_ a8_ r8_ q6_ q7_ q8_) | ((with_reducible refine gate_store (t := 2) (p := 44) rfl ?_); refine store_event (t := 2) (p := 44) (v := ?vo_v4_) (w1 := (v3_.setCell ⟨g, (x5_1 : Int).toNat * 9 + 4, none⟩ (.int .i64 (wrap64 ((wrap64 ((wrap64 ((wrap64 (x1_1 + 1)) + 1)) + 1)) + 1))))) ?hg ?ho ?hn ?hr ?_; (case ho => rfl); (case hg => rfl); (case hn => rfl); (case hr => first | (go_simp; done) | (go_simp; rfl)); intro v4_ hw; have n0_ := Aside0.mk (show MW b S w v4_ by rw [hw]; exact HP.out); clear HM HP hx hf hw; have HM := n0_; clear n0_; obtain ⟨cells, hh, hg, hs, hc, ⟨q6_, a6_, r6_⟩, ⟨q7_, a7_, r7_⟩, ⟨q8_, a8_, r8_⟩⟩ := (HV.out.move HM.out).cell HX.out; obtain ⟨z, hz⟩ := hc 5 (by decide); replace hz : cells[x5_1.toNat * 9 + 5]? = some (Value.int .i64 z) := hz; have hx : v4_.cell? ⟨g, x5_1.toNat * 9 + 5, none⟩ = some (.int .i64 z) := (blk_cell hh _).trans hz; have hf := blk_frozen hh (x5_1.toNat * 9 + 5); have HP := Aside0.mk (MW.set HM.out hh hz hg hs (wrap64 ((wrap64 ((wrap64 ((wrap64 ((wrap64 (x1_1 + 1)) + 1)) + 1)) + 1)) + 1))); clear hc hz hh hg hs a6_ r6_ a7_ r7_ a8_ r8_ q6_ q7_ q8_) | ((with_reducible refine gate_store (t := 2) (p := 51) rfl ?_); refine store_event (t := 2) (p := 51) (v := ?vo_v5_) (w1 := (v4_.setCell ⟨g, (x5_1 : Int).toNat * 9 + 5, none⟩ (.int .i64 (wrap64 ((wrap64 ((wrap64 ((wrap64 ((wrap64 (x1_1 + 1)) + 1)) + 1)) + 1)) + 1))))) ?hg ?ho ?hn ?hr ?_; (case ho => rfl); (case hg => rfl); (case hn => rfl); (case hr => first | (go_simp; done) | (go_simp; rfl)); intro v5_ hw; have n0_ := Aside0.mk (show MW b S w v5_ by rw [hw]; exact HP.out); clear HM HP hx hf hw; have HM := n0_; clear n0_; obtain ⟨cells, hh, hg, hs, hc, ⟨q6_, a6_, r6_⟩, ⟨q7_, a7_, r7_⟩, ⟨q8_, a8_, r8_⟩⟩ := (HV.out.move HM.out).cell HX.out; obtain ⟨A6_, c6_, rfl⟩ := r6_.slice; have hx : v5_.cell? ⟨g, x5_1.toNat * 9 + 6, none⟩ = some (.slice A6_ x.f6.length c6_) := (blk_cell hh _).trans a6_; have HR := Aside0.mk r6_; clear hc hh hg hs a6_ r6_ a7_ r7_ a8_ r8_) | ((with_reducible refine gate_callee (f := 116) rfl ?_); refine goesL_ _ rfl rfl Try.func116 (by kernel_rfl) rfl #[.slice A6_ x.f6.length c6_, .int .i64 (wrap64 ((wrap64 ((wrap64 ((wrap64 ((wrap64 ((wrap64 (x1_1 + 1)) + 1)) + 1)) + 1)) + 1)) + 1))] rfl (by (try simp only [List.map_toArray, List.map_cons, List.map_nil]); first | done | rfl) ?_; (with_reducible refine (mk_oper b S _ _ (wrap64 ((wrap64 ((wrap64 ((wrap64 ((wrap64 ((wrap64 (x1_1 + 1)) + 1)) + 1)) + 1)) + 1)) + 1)) _ HR.out ?s1 ?s2).mono ?_); (case s1 => have := HZ.out; have := HK6.out; omega); (case s2 => have := HZ.out; have := HK6.out; omega); rintro e v6_ ⟨rfl, hm⟩; refine ⟨_, rfl, ?_⟩; have n0_ := Aside0.mk (HM.out.trans hm); clear HM hx HR; have HM := n0_; clear n0_ hm; obtain ⟨cells, hh, hg, hs, hc, ⟨q6_, a6_, r6_⟩, ⟨q7_, a7_, r7_⟩, ⟨q8_, a8_, r8_⟩⟩ := (HV.out.move HM.out).cell HX.out; obtain ⟨A7_, c7_, rfl⟩ := r7_.slice; have hx : v6_.cell? ⟨g, x5_1.toNat * 9 + 7, none⟩ = some (.slice A7_ x.f7.length c7_) := (blk_cell hh _).trans a7_; have HR := Aside0.mk r7_; clear hc hh hg hs a6_ r6_ a7_ r7_ a8_ r8_) | ((with_reducible refine gate_callee (f := 22) rfl ?_); refine goesL_ _ rfl rfl Try.func22 (by kernel_rfl) rfl #[.slice A7_ x.f7.length c7_, .int .i64 (wrap64 ((wrap64 ((wrap64 ((wrap64 ((wrap64 ((wrap64 (x1_1 + 1)) + 1)) + 1)) + 1)) + 1)) + 1) + 4 * (x.f6.length : Int))] rfl (by (try simp only [List.map_toArray, List.map_cons, List.map_nil]); first | done | rfl) ?_; (with_reducible refine (mk_int64 b S _ _ (wrap64 ((wrap64 ((wrap64 ((wrap64 ((wrap64 ((wrap64 (x1_1 + 1)) + 1)) + 1)) + 1)) + 1)) + 1) + 4 * (x.f6.length : Int)) _ HR.out ?s1 ?s2).mono ?_); (case s1 => have := HZ.out; have := HK6.out; omega); (case s2 => have := HZ.out; have := HK6.out; omega); rintro e v7_ ⟨rfl, hm⟩; refine ⟨_, rfl, ?_⟩; have n0_ := Aside0.mk (HM.out.trans hm); clear HM hx HR; have HM := n0_; clear n0_ hm; obtain ⟨cells, hh, hg, hs, hc, ⟨q6_, a6_, r6_⟩, ⟨q7_, a7_, r7_⟩, ⟨q8_, a8_, r8_⟩⟩ := (HV.out.move HM.out).cell HX.out; obtain ⟨A8_, c8_, rfl⟩ := r8_.slice; have hx : v7_.cell? ⟨g, x5_1.toNat * 9 + 8, none⟩ = some (.slice A8_ x.f8.length c8_) := (blk_cell hh _).trans a8_; have HR := Aside0.mk r8_; clear hc hh hg hs a6_ r6_ a7_ r7_ a8_ r8_) | ((with_reducible refine gate_callee (f := 117) rfl ?_); refine goesL_ _ rfl rfl Try.func117 (by kernel_rfl) rfl #[.slice A8_ x.f8.length c8_, .int .i64 (wrap64 ((wrap64 ((wrap64 ((wrap64 ((wrap64 ((wrap64 (x1_1 + 1)) + 1)) + 1)) + 1)) + 1)) + 1) + 4 * (x.f6.length : Int) + (x.f7.length : Int))] rfl (by (try simp only [List.map_toArray, List.map_cons, List.map_nil]); first | done | rfl) ?_; (with_reducible refine (mk_uint64 b S _ _ (wrap64 ((wrap64 ((wrap64 ((wrap64 ((wrap64 ((wrap64 (x1_1 + 1)) + 1)) + 1)) + 1)) + 1)) + 1) + 4 * (x.f6.length : Int) + (x.f7.length : Int)) _ HR.out ?s1 ?s2).mono ?_); (case s1 => have := HZ.out; have := HK6.out; omega); (case s2 => have := HZ.out; have := HK6.out; omega); rintro e v8_ ⟨rfl, hm⟩; refine ⟨_, rfl, ?_⟩; have n0_ := Aside0.mk (HM.out.trans hm); clear HM hx HR; have HM := n0_; clear n0_ hm))
      go_roundg k1
      case measure => omega
      case rel => exact ⟨wrap64 ((wrap64 ((wrap64 ((wrap64 ((wrap64 ((wrap64 (x1_1 + 1)) + 1)) + 1)) + 1)) + 1)) + 1) + 4 * (x.f6.length : Int) + (x.f7.length : Int) + (x.f8.length : Int), wrap64 (x5_1 + 1), rfl, rfl, ⟨by have e := HI.out; have := HZ.out; have := HK6.out; have l := HX.out; have ll := (List.getElem?_eq_some_iff.1 l).1; have l2 := len_szN xs; have l3 := HA.out; rw [mk_w (x := x5_1 + 1) (by omega) (by omega)]; refine ⟨by omega, by omega, ?_⟩; rw [show (x5_1 + 1).toNat = x5_1.toNat + 1 by omega]; omega⟩, HM⟩
set_option maxHeartbeats 4000000 in
set_option maxRecDepth 100000 in
theorem mk_block (b : Nat) (S : Nat → Prop) (xs : List S100) (v : Value) (a1 : Int) (w : World) (hv : BRow w b S xs v) (hl : xs.length ≤ 9223372036854775807) (h0 : 0 ≤ a1) (h1 : a1 + (szB xs : Nat) ≤ 9000000000000000000) :
    Calls Try.prog 66 #[v, .int .i64 a1] w fun e w' => e = .returned (.int .i64 (a1 + (szB xs : Nat))) ∧ MW b S w w' := by
  obtain ⟨A, cap, rfl⟩ := hv.slice
  have HV := Aside0.mk hv
  have HA := Aside0.mk (And.intro h0 h1)
  have HL := Aside0.mk hl
  clear hv h0 h1 hl
  have hu100 := Try.underlying100
  go_enter Try.func66, Try.ntmps66
  go_wp2
  go_loopg [1, 5] xs.length (fun kq v1 v5 w' => ∃ (x1_1 x5_1 : Int), v1 = .int .i64 x1_1 ∧ v5 = .int .i64 x5_1 ∧ Aside0 (0 ≤ x5_1 ∧ x5_1 + kq = xs.length ∧ x1_1 = a1 + (szB (xs.take x5_1.toNat) : Nat)) ∧ Aside0 (MW b S w w'))
  case atStart => exact ⟨a1, 0, rfl, rfl, ⟨by simp [szB]⟩, ⟨MW.refl _ _ _⟩⟩
  case round =>
    obtain ⟨x1_1, x5_1, rfl, rfl, HI, HM⟩ := hrel
    cases gk with
    | zero =>
      have c3b0 : decide (x5_1 < (xs.length : Int)) = false := decide_eq_false (by have := HI.out; omega)
      go_wp2
      go_ret
      exact ⟨by rw [show x1_1 = a1 + (szB xs : Nat) by rw [HI.out.2.2, List.take_of_length_le (by have := HI.out; omega)]]; rfl, HM.out⟩
    | succ k1 =>
      have c3b0 : decide (x5_1 < (xs.length : Int)) = true := decide_eq_true (by have := HI.out; omega)
      have c4b0 : decide (0 ≤ x5_1) = true := decide_eq_true (by have := HI.out; omega)
      obtain ⟨x, hxx⟩ : ∃ x, xs[x5_1.toNat]? = some x := ⟨_, List.getElem?_eq_getElem (by have := HI.out; omega)⟩
      have HX := Aside0.mk hxx
      have HZ : Aside0 (0 ≤ x1_1 ∧ x1_1 + (szN x.f0 : Nat) ≤ 9000000000000000000 ∧ x1_1 + (szN x.f0 : Nat) = a1 + (szB (xs.take (x5_1.toNat + 1)) : Nat)) := by
        have e1 := sum_next (fun x : S100 => szN x.f0) hxx
        have e2 := sum_le (fun x : S100 => szN x.f0) xs (x5_1.toNat + 1)
        have := HI.out
        have := HA.out
        unfold szB at *
        rw [e1] at e2 ⊢
        exact ⟨by omega⟩
      clear hxx
      have HK6 : Aside0 (x1_1 = x1_1) := ⟨rfl⟩
      obtain ⟨g, rfl⟩ := HV.out.at (i := x5_1.toNat) (by have := HI.out; omega)
      obtain ⟨cells, hh, v0_, a0_, r0_⟩ := (HV.out.move HM.out).cell HX.out
      obtain ⟨A0_, c0_, rfl⟩ := r0_.slice
      have hx : wr.cell? ⟨g, x5_1.toNat, none⟩ = some (.slice A0_ x.f0.length c0_) := (blk_cell hh _).trans a0_
      have HR := Aside0.mk r0_
      clear hh a0_ r0_
      have p5 : (0 ≤ x5_1) = True := eq_true (by have := HI.out; omega)
      have q5 : (x5_1 < (xs.length : Int)) = True := eq_true (by have := HI.out; omega)
      go_wp2_with (first | ((with_reducible refine gate_callee (f := 110) rfl ?_); refine goesL_ _ rfl rfl Try.func110 (by kernel_rfl) rfl #[.slice A0_ x.f0.length c0_, .int .i64 (x1_1)] rfl (by (try simp only [List.map_toArray, List.map_cons, List.map_nil]); first | done | rfl) ?_; (with_reducible refine (mk_instr b S _ _ (x1_1) _ HR.out ?s1 ?s2).mono ?_); (case s1 => have := HZ.out; have := HK6.out; omega); (case s2 => have := HZ.out; have := HK6.out; omega); rintro e v1_ ⟨rfl, hm⟩; refine ⟨_, rfl, ?_⟩; have n0_ := Aside0.mk (HM.out.trans hm); clear HM hx HR; have HM := n0_; clear n0_ hm))
      go_roundg k1
      case measure => omega
      case rel => exact ⟨x1_1 + (szN x.f0 : Nat), wrap64 (x5_1 + 1), rfl, rfl, ⟨by have e := HI.out; have := HZ.out; have l := HX.out; have ll := (List.getElem?_eq_some_iff.1 l).1; have l2 := HL.out; rw [mk_w (x := x5_1 + 1) (by omega) (by omega)]; refine ⟨by omega, by omega, ?_⟩; rw [show (x5_1 + 1).toNat = x5_1.toNat + 1 by omega]; omega⟩, HM⟩
def laws_markFunc.f (k : Nat) (a0_0 : ByteArray) (a0_1 : Int) (l0_2 : List Int) (a0_3 : Int) (l0_4 : List (S100)) (a1 : Int) : Option (Int) := if 0 ≤ a1 ∧ a1 + (l0_2.length : Int) + (szB l0_4 : Nat) ≤ 9000000000000000000 then some (a1 + (l0_2.length : Int) + (szB l0_4 : Nat)) else none
theorem laws_markFunc.mono : ∀ a0 a1 a2 a3 a4 a5 k, LeO (laws_markFunc.f k a0 a1 a2 a3 a4 a5) (laws_markFunc.f (k + 1) a0 a1 a2 a3 a4 a5) := by
  intro a0 a1 a2 a3 a4 a5 k
  exact LeO.refl _
set_option maxHeartbeats 4000000 in
set_option maxRecDepth 100000 in
theorem laws_markFunc.calls (k : Nat) (a0_0 : ByteArray) (a0_1 : Int) (P0_ : Nat → Prop) (u9000_ : Value) (l0_2 : List Int) (a0_3 : Int) (P1_ : Nat → Prop) (u9001_ : Value) (l0_4 : List (S100)) (a1 : Int) (r1 : Int) (w0 w : World) (hB : Below w0.heap.size w0 w) (ho0 : Kd.R (Kd.int .i64) 2 w w0.heap.size P0_ u9000_ l0_2) (ho1 : Kd.R k100 100 w w0.heap.size P1_ u9001_ l0_4) (h : laws_markFunc.f k a0_0 a0_1 l0_2 a0_3 l0_4 a1 = some r1) :
    Calls Try.prog 21 #[.agg #[.string a0_0, .int .i64 a0_1, u9000_, .int .i64 a0_3, u9001_], .int .i64 a1] w fun e w' => e = .returned (.int .i64 r1) ∧ Below w0.heap.size w0 w' ∧ Kept w w' (fun k_ => P0_ k_ ∨ P1_ k_) := by
  unfold laws_markFunc.f at h
  split at h
  case isFalse => exact absurd h (by simp)
  case isTrue hA =>
    injection h with h
    subst h
    obtain ⟨A0, c0, rfl⟩ := Kd.R_slice ho0
    obtain ⟨A1, c1, rfl⟩ := Kd.R_slice ho1
    have HL := Aside0.mk (Kd.R_reads' ho1).2.2.2.1
    have HR0 := Aside0.mk ((IRow.of_i64 ho0).mono (fun k_ hk => (Or.inl hk : P0_ k_ ∨ P1_ k_)))
    have HR1 := Aside0.mk ((BRow.of_R ho1).mono (fun k_ hk => (Or.inr hk : P0_ k_ ∨ P1_ k_)))
    have HA := Aside0.mk hA
    have HS := Aside0.mk hB.size
    have HB0 := Aside0.mk hB
    clear ho0 ho1 hA hB
    have HM := Aside0.mk (MW.refl w0.heap.size (fun k_ => P0_ k_ ∨ P1_ k_) w)
    have hu30 := Try.underlying30
    go_enter Try.func21, Try.ntmps21
    go_wp2_with (first | ((with_reducible refine gate_dst (N := 2) rfl ?_); refine box_event ?hg (N := 2) ?hd (cs := #[.string a0_0, .int .i64 a0_1, .slice A0 l0_2.length c0, .int .i64 a0_3, .slice A1 l0_4.length c1]) (t := 30) ?hr ?_; (case hd => rfl); (case hg => rfl); (case hr => first | (go_simp; done) | (go_simp; rfl)); intro gb hg w1 hbox hb; have n0_ := Aside0.mk (MW.of_below (b := w0.heap.size) (S := fun k_ => P0_ k_ ∨ P1_ k_) hb HS.out); have hx : w1.cell? ⟨gb, 2, none⟩ = some (.slice A0 l0_2.length c0) := (blk_cell hbox 2).trans rfl; have BK := Aside0.mk hbox; clear hb hbox hg HM; have HM := n0_; clear n0_) | ((with_reducible refine gate_callee (f := 22) rfl ?_); refine goesL_ _ rfl rfl Try.func22 (by kernel_rfl) rfl #[.slice A0 l0_2.length c0, .int .i64 (a1)] rfl (by (try simp only [List.map_toArray, List.map_cons, List.map_nil]); first | done | rfl) ?_; (with_reducible refine (mk_int64 w0.heap.size (fun k_ => P0_ k_ ∨ P1_ k_) _ _ (a1) _ (HR0.out.move HM.out) HA.out.1 (by have := HA.out; omega)).mono ?_); rintro e w2 ⟨rfl, hm⟩; refine ⟨_, rfl, ?_⟩; have n0_ := Aside0.mk (HM.out.trans hm); clear hx; obtain ⟨cells, hh, hc⟩ := hm.2.2 _ _ _ BK.out; obtain ⟨u', hu', ch⟩ := hc 4 _ rfl; have hx : w2.cell? ⟨gb, 4, none⟩ = some (.slice A1 l0_4.length c1) := (blk_cell hh 4).trans (by rcases ch with rfl | ⟨_, _, _, e_, _⟩; exact hu'; exact absurd e_ (by simp)); clear HM hm hh hc hu' ch BK; have HM := n0_; clear n0_) | ((with_reducible refine gate_callee (f := 66) rfl ?_); refine goesL_ _ rfl rfl Try.func66 (by kernel_rfl) rfl #[.slice A1 l0_4.length c1, .int .i64 (a1 + (l0_2.length : Int))] rfl (by (try simp only [List.map_toArray, List.map_cons, List.map_nil]); first | done | rfl) ?_; (with_reducible refine (mk_block w0.heap.size (fun k_ => P0_ k_ ∨ P1_ k_) _ _ (a1 + (l0_2.length : Int)) _ (HR1.out.move HM.out) HL.out (by have := HA.out; omega) (by have := HA.out; omega)).mono ?_); rintro e w3 ⟨rfl, hm⟩; refine ⟨_, rfl, ?_⟩; have n0_ := Aside0.mk (HM.out.trans hm); clear HM hm hx; have HM := n0_; clear n0_))
    go_ret
    exact ⟨rfl, ⟨HM.out.1.os.trans HB0.out.os, HM.out.1.tape.trans HB0.out.tape, HM.out.1.output.trans HB0.out.output, Nat.le_trans HB0.out.size HM.out.1.size, fun q hq => (HM.out.1.block q hq).trans (HB0.out.block q hq)⟩, HM.out.2.1⟩


/-! ### laws_heldInt64S: function 23 -/
def laws_heldInt64S.l0 : Nat → List Int → Int → Int → Option (Int)
  | 0, _, _, _ => none
  | k + 1, x0, x1, x5 => if x5 < (x0.length : Int) then (if 0 ≤ x5 then (if (rd x0 x5) = x1 then (laws_heldInt64S.l0 k x0 (wrap64 (x1 + 1)) (wrap64 (x5 + 1))) else (some (-1))) else (none)) else (some x1)
def laws_heldInt64S.f (k : Nat) (l0 : List Int) (a1 : Int) : Option (Int) := laws_heldInt64S.l0 k l0 a1 0
theorem laws_heldInt64S.mono_l : ∀ k, (∀ y0 y1 y2, LeO (laws_heldInt64S.l0 k y0 y1 y2) (laws_heldInt64S.l0 (k + 1) y0 y1 y2))
  | 0 => fun _ _ _ r h => by simp [laws_heldInt64S.l0] at h
  | k + 1 => by
    have ih0 := laws_heldInt64S.mono_l k
    · intro y0 y1 y2
      unfold laws_heldInt64S.l0
      repeat' first
      | (with_reducible exact ih0 _ _ _)
      | (with_reducible exact LeO.refl _)
      | (with_reducible exact LeO.none _)
      | (with_reducible refine LeO.ite ?_ ?_)
      | (with_reducible refine LeO.bind ?_ (fun _ => ?_))
      | exact ih0 _ _ _
      | exact LeO.none _
      | refine LeO.ite ?_ ?_
      | refine LeO.bind ?_ (fun _ => ?_)
theorem laws_heldInt64S.mono : ∀ a0 a1 k, LeO (laws_heldInt64S.f k a0 a1) (laws_heldInt64S.f (k + 1) a0 a1) := by
  intro a0 a1 k
  have ih0 := laws_heldInt64S.mono_l k
  unfold laws_heldInt64S.f
  repeat' first
      | (with_reducible exact ih0 _ _ _)
      | (with_reducible exact LeO.refl _)
      | (with_reducible exact LeO.none _)
      | (with_reducible refine LeO.ite ?_ ?_)
      | (with_reducible refine LeO.bind ?_ (fun _ => ?_))
      | exact ih0 _ _ _
      | exact LeO.none _
      | refine LeO.ite ?_ ?_
      | refine LeO.bind ?_ (fun _ => ?_)
set_option maxHeartbeats 8000000 in
set_option maxRecDepth 100000 in
theorem laws_heldInt64S.calls (k : Nat) (A0 : Option Addr) (c0 : Nat) (l0 : List Int) (a1 : Int) (r : Int) (w : World) (hr0 : Kd.C (Kd.int .i64) w A0 l0.length l0) (hc0 : l0.length ≤ c0) (h : laws_heldInt64S.f k l0 a1 = some r) :
    Calls Try.prog 23 #[.slice A0 l0.length c0, .int .i64 a1] w fun e w' => e = .returned (.int .i64 r) ∧ Drawn0 w w' := by
  have HR0 := Aside0.mk hr0
  have HC0 := Aside0.mk hc0
  clear hr0 hc0
  have H : (laws_heldInt64S.l0 k l0 a1 0) = some r := h
  clear h
  have H' := Aside0.mk H
  clear H
  go_enter Try.func23, Try.ntmps23
  go_wp2
  go_loopg [1, 5] k (fun kq v1 v5 w' => ∃ (x1_1 : Int) (x5_1 : Int), v1 = .int .i64 x1_1 ∧ v5 = .int .i64 x5_1 ∧ Aside0 (laws_heldInt64S.l0 kq l0 x1_1 x5_1 = some r) ∧ Aside0 (kq ≤ k) ∧ Drawn0 w w')
  case atStart => exact ⟨(a1), (0), (by first | rfl | (simp; done) | (simp [*]; done)), (by first | rfl | (simp; done) | (simp [*]; done)), H', ⟨Nat.le_refl _⟩, by repeat (first | exact Drawn0.refl _ | apply Drawn0.step)⟩
  case round =>
    clear H'
    try clear c2
    try clear p2
    obtain ⟨x1_1, x5_1, rfl, rfl, HA, HK1, ⟨m1, rfl⟩⟩ := hrel
    cases gk with
    | zero => exact absurd HA.out (by simp [laws_heldInt64S.l0])
    | succ k1 =>
      have H := HA.out
      clear HA
      simp only [laws_heldInt64S.l0] at H
      by_cases c3 : x5_1 < (l0.length : Int)
      · rw [if_pos c3] at H
        have c3b0 : decide (x5_1 < (l0.length : Int)) = true := decide_eq_true c3
        clear c3
        by_cases c4 : 0 ≤ x5_1
        · rw [if_pos c4] at H
          have c4b0 : decide (0 ≤ x5_1) = true := decide_eq_true c4
          clear c4
          by_cases c5 : (rd l0 x5_1) = x1_1
          · rw [if_pos c5] at H
            have c5b0 : ((rd l0 x5_1) == x1_1) = true := beq_iff_eq.mpr c5
            have c5b1 : ((rd l0 x5_1) != x1_1) = false := bne_eq_false_iff_eq.mpr c5
            clear c5
            have H' := Aside0.mk H
            clear H
            have p250 : 0 ≤ (x5_1 : Int) := of_decide_eq_true (by first | (with_reducible assumption) | assumption)
            have q250 : x5_1 < (l0.length : Int) := of_decide_eq_true (by first | (with_reducible assumption) | assumption)
            obtain ⟨ad250, e250, hx250_0⟩ := Kd.at_int HR0.out x5_1 p250 q250
            cases e250
            replace p250 := eq_true p250
            replace q250 := eq_true q250
            go_wp2
            go_roundg k1
            case measure => have := HK1.out; omega
            case rel => exact ⟨(wrap64 (x1_1 + 1)), (wrap64 (x5_1 + 1)), (by first | rfl | (simp; done) | (simp [*]; done)), (by first | rfl | (simp; done) | (simp [*]; done)), H', ⟨by have := HK1.out; omega⟩, by repeat (first | exact Drawn0.refl _ | apply Drawn0.step)⟩
          · rw [if_neg c5] at H
            have c5b0 : ((rd l0 x5_1) == x1_1) = false := beq_eq_false_iff_ne.mpr c5
            have c5b1 : ((rd l0 x5_1) != x1_1) = true := bne_iff_ne.mpr c5
            obtain rfl := Option.some.inj H
            have p250 : 0 ≤ (x5_1 : Int) := of_decide_eq_true (by first | (with_reducible assumption) | assumption)
            have q250 : x5_1 < (l0.length : Int) := of_decide_eq_true (by first | (with_reducible assumption) | assumption)
            obtain ⟨ad250, e250, hx250_0⟩ := Kd.at_int HR0.out x5_1 p250 q250
            cases e250
            replace p250 := eq_true p250
            replace q250 := eq_true q250
            go_wp2
            go_ret
            exact ⟨by first | rfl | (simp; done) | (simp [*]; done), by repeat (first | exact Drawn0.refl _ | apply Drawn0.step)⟩
        · rw [if_neg c4] at H
          exact absurd H (by simp)
      · rw [if_neg c3] at H
        have c3b0 : decide (x5_1 < (l0.length : Int)) = false := decide_eq_false c3
        clear c3
        obtain rfl := Option.some.inj H
        go_wp2
        go_ret
        exact ⟨by first | rfl | (simp; done) | (simp [*]; done), by repeat (first | exact Drawn0.refl _ | apply Drawn0.step)⟩

end Go.Proofs.Ythfhenhlfedfmaa.QFnExactValueTypes
