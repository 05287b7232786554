/- At every function and value the program's DefinedAt tells what the reference's tells, where the argument is of at most 1048576 parts; larger ones are not asked. -/
import Derived.Test.YtcjdgimiobhhnaaOpenFnExactDefinedAt
import Derived.Test.YtcjdgimiobhhnaaPlGen
namespace Go.Proofs.Ytcjdgimiobhhnaa.Pure
open Go.RowKit Go.Proofs.Ytcjdgimiobhhnaa.QFnExactDefinedAt Go.Proofs.Ytcjdgimiobhhnaa.OpenFnExactDefinedAt Go.Proofs.YtcjdgimiobhhnaaW.PrintWords Go.Proofs.YtcjdgimiobhhnaaW.PrintLast Go.Proofs.YtcjdgimiobhhnaaW.PrintMore Go.Proofs.Ytcjdgimiobhhnaa.RowOpen Go.Proofs.Ytcjdgimiobhhnaa.PlGen
set_option linter.unusedSimpArgs false
set_option linter.unusedVariables false
set_option maxHeartbeats 4000000

/-! the structs of a function: measured, copied, compared -/
def cOp (x : S133) : S131 := ⟨x.f0, x.f1, x.f2, x.f3⟩
def cIn (x : S121) : S91 := ⟨x.f0, x.f1, x.f2, x.f3, x.f4, x.f5, x.f6.map cOp, x.f7, x.f8⟩
def cBl (x : S109) : S87 := ⟨x.f0.map cIn⟩
def smIn (x : S121) : Prop := x.f6.length ≤ 1048576 ∧ x.f7.length ≤ 1048576 ∧ x.f8.length ≤ 1048576
def smBl (x : S109) : Prop := x.f0.length ≤ 1048576 ∧ ∀ y ∈ x.f0, smIn y
theorem rdLI_at {xs : List S121} {i : Nat} (h : i < xs.length) : rd_T121 xs (i : Int) = xs[i] := getD_at h _
theorem rdLB_at {xs : List S109} {i : Nat} (h : i < xs.length) : rd_T109 xs (i : Int) = xs[i] := getD_at h _
theorem rdLO_at {xs : List S133} {i : Nat} (h : i < xs.length) : rd_T133 xs (i : Int) = xs[i] := getD_at h _
theorem rdII_at {xs : List S91} {i : Nat} (h : i < xs.length) : rd_T91 xs (i : Int) = xs[i] := getD_at h _
theorem rdIB_at {xs : List S87} {i : Nat} (h : i < xs.length) : rd_T87 xs (i : Int) = xs[i] := getD_at h _
theorem rdIO_at {xs : List S131} {i : Nat} (h : i < xs.length) : rd_T131 xs (i : Int) = xs[i] := getD_at h _

theorem laws_szInt64S_at (l : List Int) (left : Int) (hl : l.length ≤ 9223372036854775807) (h0 : 0 ≤ left) (h1 : left ≤ 1048576) : laws_szInt64S.f l left = some (if left - (l.length : Int) < 0 then -1 else left - l.length) := by
  unfold laws_szInt64S.f
  rw [wrap64_id (by omega) (by omega)]
  split <;> rfl
theorem laws_szUint64S_at (l : List Int) (left : Int) (hl : l.length ≤ 9223372036854775807) (h0 : 0 ≤ left) (h1 : left ≤ 1048576) : laws_szUint64S.f l left = some (if left - (l.length : Int) < 0 then -1 else left - l.length) := by
  unfold laws_szUint64S.f
  rw [wrap64_id (by omega) (by omega)]
  split <;> rfl
theorem laws_szOperandS_at (l : List S133) (left : Int) (hl : l.length ≤ 9223372036854775807) (h0 : 0 ≤ left) (h1 : left ≤ 1048576) : laws_szOperandS.f l left = some (if left - (l.length : Int) < 0 then -1 else left - l.length) := by
  unfold laws_szOperandS.f
  rw [wrap64_id (by omega) (by omega)]
  split <;> rfl

theorem szInstr_at (x : S121) (left : Int) (hq : q121 x) (h0 : 0 ≤ left) (h1 : left ≤ 1048576) :
    ∃ r, laws_szInstr.f x.f0 x.f1 x.f2 x.f3 x.f4 x.f5 x.f6 x.f7 x.f8 left = some r ∧ r ≤ left ∧ -1 ≤ r ∧ (0 ≤ r → smIn x) := by
  obtain ⟨_, _, _, _, _, _, ⟨g6, _⟩, ⟨g7, _⟩, ⟨g8, _⟩⟩ := hq
  simp only [maxLen] at g6 g7 g8
  unfold laws_szInstr.f
  rw [laws_szOperandS_at _ _ g6 h0 h1]
  simp only [Option.bind_some]
  by_cases c1 : left - (x.f6.length : Int) < 0
  · rw [if_pos c1, if_pos (by omega)]
    exact ⟨-1, rfl, by omega, by omega, fun h => by omega⟩
  rw [if_neg c1, if_neg c1, laws_szInt64S_at _ _ g7 (by omega) (by omega)]
  simp only [Option.bind_some]
  by_cases c2 : left - (x.f6.length : Int) - (x.f7.length : Int) < 0
  · rw [if_pos c2, if_pos (by omega)]
    exact ⟨-1, rfl, by omega, by omega, fun h => by omega⟩
  rw [if_neg c2, if_neg c2, laws_szUint64S_at _ _ g8 (by omega) (by omega)]
  simp only [Option.bind_some]
  by_cases c3 : left - (x.f6.length : Int) - (x.f7.length : Int) - (x.f8.length : Int) < 0
  · rw [if_pos c3, if_pos (by omega)]
    exact ⟨-1, rfl, by omega, by omega, fun h => by omega⟩
  rw [if_neg c3, if_neg c3]
  exact ⟨_, rfl, by omega, by omega, fun _ => ⟨by omega, by omega, by omega⟩⟩
theorem szInstrS_ev (l : List S121) (left : Int) (hl : l.length ≤ 9223372036854775807) (hq : ∀ x ∈ l, q121 x) (h0 : 0 ≤ left) (h1 : left ≤ 1048576) :
    ∃ r, Ev (fun k => laws_szInstrS.f k l left) r ∧ r ≤ left ∧ -1 ≤ r ∧ (0 ≤ r → l.length ≤ 1048576 ∧ ∀ x ∈ l, smIn x) := by
  by_cases c : left - (l.length : Int) < 0
  · refine ⟨-1, Ev.congr (f := fun _ => some (-1)) (fun k => ?_) (Ev.now _), by omega, by omega, fun h => by omega⟩
    unfold laws_szInstrS.f
    rw [wrap64_id (by omega) (by omega), if_pos c]
  · obtain ⟨r, hr, hr1, hev, hall⟩ := sz_loop (fun k left i => laws_szInstrS.l0 k l left i) l smIn (fun k left => by simp only [laws_szInstrS.l0]; rw [if_neg (by omega)])
      (fun i hi lf b0 b1 => by
        obtain ⟨r, he, hr, hr1, hs⟩ := szInstr_at l[i] lf (hq _ (List.getElem_mem hi)) b0 b1
        have step : ∀ k, laws_szInstrS.l0 (k + 1) l lf (i : Int) = if r < 0 then some (-1) else laws_szInstrS.l0 k l r ((i + 1 : Nat) : Int) := by
          intro k
          simp only [laws_szInstrS.l0]
          rw [if_pos (by omega), if_pos (by omega), rdLI_at hi, he, wrap64_next hi hl]
          rfl
        refine ⟨r, hr, fun hn => Ev.step (f := fun _ => some (-1)) (fun k => by rw [step k, if_pos hn]) (Ev.now _), fun hp => ⟨hs hp, fun q hq => Ev.step (fun k => by rw [step k, if_neg (by omega)]) hq⟩⟩)
      (left - l.length) (by omega) (by omega)
    refine ⟨r, Ev.congr (fun k => ?_) hev, by omega, hr1, fun h => ⟨by omega, hall h⟩⟩
    unfold laws_szInstrS.f
    rw [wrap64_id (by omega) (by omega), if_neg c]
theorem szBlock_ev (x : S109) (left : Int) (hq : q109 x) (h0 : 0 ≤ left) (h1 : left ≤ 1048576) : ∃ r, Ev (fun k => laws_szBlock.f k x.f0 left) r ∧ r ≤ left ∧ -1 ≤ r ∧ (0 ≤ r → smBl x) := by
  obtain ⟨g, hg⟩ := hq
  simp only [maxLen] at g
  obtain ⟨r, hev, hr, hr1, hs⟩ := szInstrS_ev x.f0 left g hg h0 h1
  refine ⟨r, ?_, hr, hr1, hs⟩
  refine Ev.bind (f := fun _ t => if t < 0 then some (-1) else some t) hev (Ev.congr (f := fun _ => some r) (fun k => ?_) (Ev.now r))
  by_cases c : r < 0
  · rw [if_pos c, show r = -1 by omega]
  · rw [if_neg c]
theorem szBlockS_ev (l : List S109) (left : Int) (hl : l.length ≤ 9223372036854775807) (hq : ∀ x ∈ l, q109 x) (h0 : 0 ≤ left) (h1 : left ≤ 1048576) :
    ∃ r, Ev (fun k => laws_szBlockS.f k l left) r ∧ r ≤ left ∧ -1 ≤ r ∧ (0 ≤ r → l.length ≤ 1048576 ∧ ∀ x ∈ l, smBl x) := by
  by_cases c : left - (l.length : Int) < 0
  · refine ⟨-1, Ev.congr (f := fun _ => some (-1)) (fun k => ?_) (Ev.now _), by omega, by omega, fun h => by omega⟩
    unfold laws_szBlockS.f
    rw [wrap64_id (by omega) (by omega), if_pos c]
  · obtain ⟨r, hr, hr1, hev, hall⟩ := sz_loop (fun k left i => laws_szBlockS.l0 k l left i) l smBl (fun k left => by simp only [laws_szBlockS.l0]; rw [if_neg (by omega)])
      (fun i hi lf b0 b1 => by
        obtain ⟨r, he, hr, hr1, hs⟩ := szBlock_ev l[i] lf (hq _ (List.getElem_mem hi)) b0 b1
        have step : ∀ k, laws_szBlockS.l0 (k + 1) l lf (i : Int) = (laws_szBlock.f k (l[i]).f0 lf).bind fun t => if t < 0 then some (-1) else laws_szBlockS.l0 k l t ((i + 1 : Nat) : Int) := by
          intro k
          simp only [laws_szBlockS.l0]
          rw [if_pos (by omega), if_pos (by omega), rdLB_at hi, wrap64_next hi hl]
        refine ⟨r, hr, fun hn => Ev.step step (Ev.bind (f := fun k t => if t < 0 then some (-1) else laws_szBlockS.l0 k l t ((i + 1 : Nat) : Int)) he (Ev.congr (f := fun _ => some (-1)) (fun k => if_pos hn) (Ev.now _))),
          fun hp => ⟨hs hp, fun q hq => Ev.step step (Ev.bind (f := fun k t => if t < 0 then some (-1) else laws_szBlockS.l0 k l t ((i + 1 : Nat) : Int)) he (Ev.congr (fun k => if_neg (by omega)) hq))⟩⟩)
      (left - l.length) (by omega) (by omega)
    refine ⟨r, Ev.congr (fun k => ?_) hev, by omega, hr1, fun h => ⟨by omega, hall h⟩⟩
    unfold laws_szBlockS.f
    rw [wrap64_id (by omega) (by omega), if_neg c]
theorem szFunc_ev (s : ByteArray) (a : Int) (l2 : List Int) (b : Int) (l4 : List S109) (hs : s.size ≤ 9223372036854775807) (h2 : l2.length ≤ 9223372036854775807) (h4 : l4.length ≤ 9223372036854775807) (hq : ∀ x ∈ l4, q109 x) :
    ∃ r, Ev (fun k => laws_szFunc.f k s a l2 b l4 1048576) r ∧ (0 ≤ r → l2.length ≤ 1048576 ∧ l4.length ≤ 1048576 ∧ ∀ x ∈ l4, smBl x) := by
  by_cases c1 : (1048576 : Int) - (s.size : Int) < 0
  · refine ⟨-1, Ev.congr (f := fun _ => some (-1)) (fun k => ?_) (Ev.now _), fun h => by omega⟩
    unfold laws_szFunc.f
    rw [wrap64_id (by omega) (by omega), if_pos c1]
  by_cases c2 : (1048576 : Int) - (s.size : Int) - (l2.length : Int) < 0
  · refine ⟨-1, Ev.congr (f := fun _ => some (-1)) (fun k => ?_) (Ev.now _), fun h => by omega⟩
    unfold laws_szFunc.f
    rw [wrap64_id (by omega) (by omega), if_neg c1, laws_szInt64S_at _ _ h2 (by omega) (by omega), if_pos c2]
    rfl
  obtain ⟨r, hev, hr, hr1, hsm⟩ := szBlockS_ev l4 (1048576 - (s.size : Int) - (l2.length : Int)) h4 hq (by omega) (by omega)
  refine ⟨r, Ev.congr (f := fun k => (laws_szBlockS.f k l4 (1048576 - (s.size : Int) - (l2.length : Int))).bind fun t => if t < 0 then some (-1) else some t) (fun k => ?_) ?_, fun h => ⟨by omega, hsm h⟩⟩
  · unfold laws_szFunc.f
    rw [wrap64_id (by omega) (by omega), if_neg c1, laws_szInt64S_at _ _ h2 (by omega) (by omega), if_neg c2]
    simp only [Option.bind_some]
    rw [if_neg c2]
  · refine Ev.bind (f := fun _ t => if t < 0 then some (-1) else some t) hev (Ev.congr (f := fun _ => some r) (fun k => ?_) (Ev.now r))
    by_cases c : r < 0
    · rw [if_pos c, show r = -1 by omega]
    · rw [if_neg c]

theorem laws_toInt64S_ev (l : List Int) (hl : l.length ≤ 1048576) : Ev (fun k => laws_toInt64S.f k l) l := by
  have := copy_loop (fun k ys i => laws_toInt64S.l0 k l ys i) l (fun x => x) (fun k ys => by simp only [laws_toInt64S.l0]; rw [if_neg (by omega)])
    (fun i hi ys hy r h => by
      refine Ev.step (f := fun k => laws_toInt64S.l0 k l (ys.set i l[i]) ((i + 1 : Nat) : Int)) (fun k => ?_) h
      simp only [laws_toInt64S.l0]
      rw [if_pos (by omega), if_pos (by omega), if_pos (by omega), rd_at hi, wrap64_next hi (by omega)]
      rfl) (List.replicate ((l.length : Int)).toNat 0) (by simp)
  rw [List.map_id'] at this
  refine Ev.congr (fun k => ?_) this
  unfold laws_toInt64S.f
  rw [if_pos (by omega), if_pos (by omega)]
theorem laws_toUint64S_ev (l : List Int) (hl : l.length ≤ 1048576) : Ev (fun k => laws_toUint64S.f k l) l := by
  have := copy_loop (fun k ys i => laws_toUint64S.l0 k l ys i) l (fun x => x) (fun k ys => by simp only [laws_toUint64S.l0]; rw [if_neg (by omega)])
    (fun i hi ys hy r h => by
      refine Ev.step (f := fun k => laws_toUint64S.l0 k l (ys.set i l[i]) ((i + 1 : Nat) : Int)) (fun k => ?_) h
      simp only [laws_toUint64S.l0]
      rw [if_pos (by omega), if_pos (by omega), if_pos (by omega), rd_at hi, wrap64_next hi (by omega)]
      rfl) (List.replicate ((l.length : Int)).toNat 0) (by simp)
  rw [List.map_id'] at this
  refine Ev.congr (fun k => ?_) this
  unfold laws_toUint64S.f
  rw [if_pos (by omega), if_pos (by omega)]

theorem toOperandS_ev (l : List S133) (hl : l.length ≤ 1048576) : Ev (fun k => laws_toOperandS.f k l) (l.map cOp) := by
  have := copy_loop (fun k ys i => laws_toOperandS.l0 k l ys i) l cOp (fun k ys => by simp only [laws_toOperandS.l0]; rw [if_neg (by omega)])
    (fun i hi ys hy r h => by
      refine Ev.step (f := fun k => laws_toOperandS.l0 k l (ys.set i (cOp l[i])) ((i + 1 : Nat) : Int)) (fun k => ?_) h
      simp only [laws_toOperandS.l0]
      rw [if_pos (by omega), if_pos (by omega), rdLO_at hi, wrap64_next hi (by omega)]
      unfold laws_toOperand.f
      simp only [Option.bind_some]
      rw [if_pos (by omega)]
      rfl) (List.replicate ((l.length : Int)).toNat z131) (by simp)
  refine Ev.congr (fun k => ?_) this
  unfold laws_toOperandS.f
  rw [if_pos (by omega), if_pos (by omega)]
theorem toInstr_ev (x : S121) (h : smIn x) : Ev (fun k => laws_toInstr.f k x.f0 x.f1 x.f2 x.f3 x.f4 x.f5 x.f6 x.f7 x.f8) (x.f0, x.f1, x.f2, x.f3, x.f4, x.f5, x.f6.map cOp, x.f7, x.f8) := by
  obtain ⟨g6, g7, g8⟩ := h
  exact Ev.bind (f := fun k t => (laws_toInt64S.f k x.f7).bind fun t1 => (laws_toUint64S.f k x.f8).bind fun t2 => some (x.f0, x.f1, x.f2, x.f3, x.f4, x.f5, t, t1, t2)) (toOperandS_ev x.f6 g6)
    (Ev.bind (f := fun k t1 => (laws_toUint64S.f k x.f8).bind fun t2 => some (x.f0, x.f1, x.f2, x.f3, x.f4, x.f5, x.f6.map cOp, t1, t2)) (laws_toInt64S_ev x.f7 g7)
      (Ev.bind (f := fun _ t2 => some (x.f0, x.f1, x.f2, x.f3, x.f4, x.f5, x.f6.map cOp, x.f7, t2)) (laws_toUint64S_ev x.f8 g8) (Ev.now _)))
theorem toInstrS_ev (l : List S121) (hl : l.length ≤ 1048576) (hs : ∀ x ∈ l, smIn x) : Ev (fun k => laws_toInstrS.f k l) (l.map cIn) := by
  have := copy_loop (fun k ys i => laws_toInstrS.l0 k l ys i) l cIn (fun k ys => by simp only [laws_toInstrS.l0]; rw [if_neg (by omega)])
    (fun i hi ys hy r h => by
      refine Ev.step (f := fun k => (laws_toInstr.f k (l[i]).f0 (l[i]).f1 (l[i]).f2 (l[i]).f3 (l[i]).f4 (l[i]).f5 (l[i]).f6 (l[i]).f7 (l[i]).f8).bind fun t => laws_toInstrS.l0 k l (ys.set i ⟨t.1, t.2.1, t.2.2.1, t.2.2.2.1, t.2.2.2.2.1, t.2.2.2.2.2.1, t.2.2.2.2.2.2.1, t.2.2.2.2.2.2.2.1, t.2.2.2.2.2.2.2.2⟩) ((i + 1 : Nat) : Int)) (fun k => ?_) ?_
      · simp only [laws_toInstrS.l0]
        rw [if_pos (by omega), if_pos (by omega), rdLI_at hi, wrap64_next hi (by omega)]
        simp only [if_pos (show (i : Int) < (ys.length : Int) by omega)]
        rfl
      · exact Ev.bind (f := fun k t => laws_toInstrS.l0 k l (ys.set i ⟨t.1, t.2.1, t.2.2.1, t.2.2.2.1, t.2.2.2.2.1, t.2.2.2.2.2.1, t.2.2.2.2.2.2.1, t.2.2.2.2.2.2.2.1, t.2.2.2.2.2.2.2.2⟩) ((i + 1 : Nat) : Int)) (toInstr_ev l[i] (hs _ (List.getElem_mem hi))) h) (List.replicate ((l.length : Int)).toNat z91) (by simp)
  refine Ev.congr (fun k => ?_) this
  unfold laws_toInstrS.f
  rw [if_pos (by omega), if_pos (by omega)]
theorem toBlockS_ev (l : List S109) (hl : l.length ≤ 1048576) (hs : ∀ x ∈ l, smBl x) : Ev (fun k => laws_toBlockS.f k l) (l.map cBl) := by
  have := copy_loop (fun k ys i => laws_toBlockS.l0 k l ys i) l cBl (fun k ys => by simp only [laws_toBlockS.l0]; rw [if_neg (by omega)])
    (fun i hi ys hy r h => by
      refine Ev.step (f := fun k => (laws_toBlock.f k (l[i]).f0).bind fun t => laws_toBlockS.l0 k l (ys.set i ⟨t⟩) ((i + 1 : Nat) : Int)) (fun k => ?_) ?_
      · simp only [laws_toBlockS.l0]
        rw [if_pos (by omega), if_pos (by omega), rdLB_at hi, wrap64_next hi (by omega)]
        simp only [if_pos (show (i : Int) < (ys.length : Int) by omega)]
        rfl
      · obtain ⟨g, hg⟩ := hs _ (List.getElem_mem hi)
        exact Ev.bind (f := fun k t => laws_toBlockS.l0 k l (ys.set i ⟨t⟩) ((i + 1 : Nat) : Int)) (Ev.bind (f := fun _ t => some t) (toInstrS_ev (l[i]).f0 g hg) (Ev.now _)) h) (List.replicate ((l.length : Int)).toNat z87) (by simp)
  refine Ev.congr (fun k => ?_) this
  unfold laws_toBlockS.f
  rw [if_pos (by omega), if_pos (by omega)]
theorem toFunc_ev (s : ByteArray) (a : Int) (l2 : List Int) (b : Int) (l4 : List S109) (h2 : l2.length ≤ 1048576) (h4 : l4.length ≤ 1048576) (hs : ∀ x ∈ l4, smBl x) :
    Ev (fun k => laws_toFunc.f k s a l2 b l4) (s, a, l2, b, l4.map cBl) :=
  Ev.bind (f := fun k t => (laws_toBlockS.f k l4).bind fun t1 => some (s, a, t, b, t1)) (laws_toInt64S_ev l2 h2) (Ev.bind (f := fun _ t1 => some (s, a, l2, b, t1)) (toBlockS_ev l4 h4 hs) (Ev.now _))

theorem laws_eqInt64S_ev (l : List Int) (hl : l.length ≤ 1048576) : Ev (fun k => laws_eqInt64S.f k l l) true := by
  have := eq_loop (fun k i => laws_eqInt64S.l0 k l l i) l.length (fun k => by simp only [laws_eqInt64S.l0]; rw [if_neg (by omega)])
    (fun i hi h => by
      refine Ev.step (f := fun k => laws_eqInt64S.l0 k l l ((i + 1 : Nat) : Int)) (fun k => ?_) h
      simp only [laws_eqInt64S.l0]
      rw [if_pos (by omega), if_pos (by omega), if_pos (by omega), if_pos trivial, wrap64_next hi (by omega)])
  refine Ev.congr (fun k => ?_) this
  unfold laws_eqInt64S.f
  rw [if_pos rfl]
theorem laws_eqUint64S_ev (l : List Int) (hl : l.length ≤ 1048576) : Ev (fun k => laws_eqUint64S.f k l l) true := by
  have := eq_loop (fun k i => laws_eqUint64S.l0 k l l i) l.length (fun k => by simp only [laws_eqUint64S.l0]; rw [if_neg (by omega)])
    (fun i hi h => by
      refine Ev.step (f := fun k => laws_eqUint64S.l0 k l l ((i + 1 : Nat) : Int)) (fun k => ?_) h
      simp only [laws_eqUint64S.l0]
      rw [if_pos (by omega), if_pos (by omega), if_pos (by omega), if_pos trivial, wrap64_next hi (by omega)])
  refine Ev.congr (fun k => ?_) this
  unfold laws_eqUint64S.f
  rw [if_pos rfl]

theorem eqOperandS_ev (l : List S131) (hl : l.length ≤ 1048576) : Ev (fun k => laws_eqOperandS.f k l l) true := by
  have := eq_loop (fun k i => laws_eqOperandS.l0 k l l i) l.length (fun k => by simp only [laws_eqOperandS.l0]; rw [if_neg (by omega)])
    (fun i hi h => by
      refine Ev.step (f := fun k => laws_eqOperandS.l0 k l l ((i + 1 : Nat) : Int)) (fun k => ?_) h
      simp only [laws_eqOperandS.l0]
      rw [if_pos (by omega), if_pos (by omega), if_pos (by omega), wrap64_next hi (by omega)]
      unfold laws_eqOperand.f
      simp only [if_true, Option.bind_some])
  refine Ev.congr (fun k => ?_) this
  unfold laws_eqOperandS.f
  rw [if_pos rfl]
def smII (x : S91) : Prop := x.f6.length ≤ 1048576 ∧ x.f7.length ≤ 1048576 ∧ x.f8.length ≤ 1048576
def smIB (x : S87) : Prop := x.f0.length ≤ 1048576 ∧ ∀ y ∈ x.f0, smII y
theorem smII_of {x : S121} (h : smIn x) : smII (cIn x) := ⟨by simpa [cIn] using h.1, h.2.1, h.2.2⟩
theorem smIB_of {x : S109} (h : smBl x) : smIB (cBl x) := ⟨by simpa [cBl] using h.1, fun y hy => by
  simp only [cBl, List.mem_map] at hy
  obtain ⟨z, hz, rfl⟩ := hy
  exact smII_of (h.2 z hz)⟩
theorem eqInstr_ev (x : S91) (h : smII x) : Ev (fun k => laws_eqInstr.f k x.f0 x.f1 x.f2 x.f3 x.f4 x.f5 x.f6 x.f7 x.f8 x.f0 x.f1 x.f2 x.f3 x.f4 x.f5 x.f6 x.f7 x.f8) true := by
  obtain ⟨g6, g7, g8⟩ := h
  refine Ev.congr (f := fun k => (laws_eqOperandS.f k x.f6 x.f6).bind fun t => if t = true then ((laws_eqInt64S.f k x.f7 x.f7).bind fun t1 => if t1 = true then ((laws_eqUint64S.f k x.f8 x.f8).bind fun t2 => if t2 = true then some true else some false) else some false) else some false) (fun k => ?_) ?_
  · unfold laws_eqInstr.f
    simp only [if_true]
  · exact Ev.bind (f := fun k t => if t = true then ((laws_eqInt64S.f k x.f7 x.f7).bind fun t1 => if t1 = true then ((laws_eqUint64S.f k x.f8 x.f8).bind fun t2 => if t2 = true then some true else some false) else some false) else some false) (eqOperandS_ev _ g6)
      (Ev.bind (f := fun k t1 => if t1 = true then ((laws_eqUint64S.f k x.f8 x.f8).bind fun t2 => if t2 = true then some true else some false) else some false) (laws_eqInt64S_ev _ g7)
        (Ev.bind (f := fun _ t2 => if t2 = true then some true else some false) (laws_eqUint64S_ev _ g8) (Ev.now _)))
theorem eqInstrS_ev (l : List S91) (hl : l.length ≤ 1048576) (hs : ∀ x ∈ l, smII x) : Ev (fun k => laws_eqInstrS.f k l l) true := by
  have := eq_loop (fun k i => laws_eqInstrS.l0 k l l i) l.length (fun k => by simp only [laws_eqInstrS.l0]; rw [if_neg (by omega)])
    (fun i hi h => by
      have e := eqInstr_ev l[i] (hs _ (List.getElem_mem hi))
      refine Ev.step (fun k => ?_) (Ev.bind (f := fun k t => if t = true then laws_eqInstrS.l0 k l l ((i + 1 : Nat) : Int) else some false) e h)
      simp only [laws_eqInstrS.l0]
      rw [if_pos (by omega), if_pos (by omega), if_pos (by omega), wrap64_next hi (by omega), rdII_at hi])
  refine Ev.congr (fun k => ?_) this
  unfold laws_eqInstrS.f
  rw [if_pos rfl]
theorem eqBlockS_ev (l : List S87) (hl : l.length ≤ 1048576) (hs : ∀ x ∈ l, smIB x) : Ev (fun k => laws_eqBlockS.f k l l) true := by
  have := eq_loop (fun k i => laws_eqBlockS.l0 k l l i) l.length (fun k => by simp only [laws_eqBlockS.l0]; rw [if_neg (by omega)])
    (fun i hi h => by
      obtain ⟨g, hg⟩ := hs _ (List.getElem_mem hi)
      have e : Ev (fun k => laws_eqBlock.f k (l[i]).f0 (l[i]).f0) true := Ev.bind (f := fun _ t => if t = true then some true else some false) (eqInstrS_ev _ g hg) (Ev.now _)
      refine Ev.step (fun k => ?_) (Ev.bind (f := fun k t => if t = true then laws_eqBlockS.l0 k l l ((i + 1 : Nat) : Int) else some false) e h)
      simp only [laws_eqBlockS.l0]
      rw [if_pos (by omega), if_pos (by omega), if_pos (by omega), wrap64_next hi (by omega), rdIB_at hi])
  refine Ev.congr (fun k => ?_) this
  unfold laws_eqBlockS.f
  rw [if_pos rfl]
theorem eqFunc_ev (s : ByteArray) (a : Int) (l2 : List Int) (b : Int) (l4 : List S87) (h2 : l2.length ≤ 1048576) (h4 : l4.length ≤ 1048576) (hs : ∀ x ∈ l4, smIB x) :
    Ev (fun k => laws_eqFunc.f k s a l2 b l4 s a l2 b l4) true := by
  refine Ev.congr (f := fun k => (laws_eqInt64S.f k l2 l2).bind fun t => if t = true then ((laws_eqBlockS.f k l4 l4).bind fun t1 => if t1 = true then some true else some false) else some false) (fun k => ?_) ?_
  · unfold laws_eqFunc.f
    simp only [if_true]
  · exact Ev.bind (f := fun k t => if t = true then ((laws_eqBlockS.f k l4 l4).bind fun t1 => if t1 = true then some true else some false) else some false) (laws_eqInt64S_ev _ h2)
      (Ev.bind (f := fun _ t1 => if t1 = true then some true else some false) (eqBlockS_ev _ h4 hs) (Ev.now _))



/-! where values are defined: the places of a function -/
def isV (x : S91) : Bool := x.f1 != 0
def cnt (l : List S91) : Nat := (l.filter isV).length
def cntB (bs : List S87) : Nat := (bs.map fun b => cnt b.f0).sum
/-- The places of one block's instructions from number j on. -/
def rowP (i : Nat) : Nat → List S91 → List S60
  | _, [] => []
  | j, x :: xs => if isV x = true then ⟨(i : Int), (j : Int)⟩ :: rowP i (j + 1) xs else rowP i (j + 1) xs
def allP : Nat → List S87 → List S60
  | _, [] => []
  | i, b :: bs => rowP i 0 b.f0 ++ allP (i + 1) bs
theorem rowP_len (i : Nat) (l : List S91) : ∀ j, (rowP i j l).length = cnt l := by
  induction l with
  | nil => intro j; rfl
  | cons x xs ih =>
    intro j
    unfold rowP cnt
    by_cases h : isV x = true
    · simp [h, ih, cnt]
    · simp [h, ih, cnt]
theorem allP_len (bs : List S87) : ∀ i, (allP i bs).length = cntB bs := by
  induction bs with
  | nil => intro i; rfl
  | cons b bs ih =>
    intro i
    simp [allP, cntB, rowP_len, ih]
theorem cnt_le (l : List S91) : cnt l ≤ l.length := List.length_filter_le _ _
theorem cntB_le (bs : List S87) (h : ∀ b ∈ bs, smIB b) : cntB bs ≤ bs.length * 1048576 := by
  induction bs with
  | nil => simp [cntB]
  | cons b bs ih =>
    have h1 := ih (fun x hx => h x (List.mem_cons_of_mem _ hx))
    have h2 := (h b List.mem_cons_self).1
    have h3 := cnt_le b.f0
    have h4 : cntB (b :: bs) = cnt b.f0 + cntB bs := by simp [cntB]
    rw [h4, List.length_cons, Nat.succ_mul]
    omega
theorem cntB_take_le (bs : List S87) (i : Nat) : cntB (bs.take i) ≤ cntB bs := by
  induction bs generalizing i with
  | nil => simp [cntB]
  | cons b bs ih =>
    cases i with
    | zero => simp [cntB]
    | succ i =>
      have := ih i
      simp only [cntB, List.take_succ_cons, List.map_cons, List.sum_cons] at *
      omega
theorem cntB_at (bs : List S87) (i : Nat) (h : i < bs.length) : cntB (bs.take (i + 1)) = cntB (bs.take i) + cnt (bs[i]).f0 := by
  unfold cntB
  rw [List.take_succ_eq_append_getElem h, List.map_append, List.sum_append]
  simp only [List.map_cons, List.map_nil, List.sum_cons, List.sum_nil, Nat.add_zero]
theorem cnt_take_le (l : List S91) (i : Nat) : cnt (l.take i) ≤ cnt l := by
  unfold cnt
  rw [show l.filter isV = (l.take i).filter isV ++ (l.drop i).filter isV by rw [← List.filter_append, List.take_append_drop], List.length_append]
  omega
theorem cnt_at (l : List S91) (i : Nat) (h : i < l.length) : cnt (l.take (i + 1)) = cnt (l.take i) + if isV l[i] = true then 1 else 0 := by
  unfold cnt
  rw [List.take_succ_eq_append_getElem h, List.filter_append, List.length_append]
  by_cases c : isV l[i] = true <;> simp [c]
theorem isV_iff (x : S91) : isV x = true ↔ ¬ x.f1 = 0 := by simp [isV]
/-- The program's list of places. -/
theorem places_ev (s : ByteArray) (a : Int) (l2 : List Int) (b : Int) (bs : List S87) (hl : bs.length ≤ 1048576) (hs : ∀ x ∈ bs, smIB x) : Ev (fun k => impl_places.f k s a l2 b bs) (allP 0 bs) := by
  have hcap : cntB bs ≤ 1099511627776 := by
    have := cntB_le bs hs
    have h2 : bs.length * 1048576 ≤ 1048576 * 1048576 := Nat.mul_le_mul_right _ hl
    omega
  -- a block's instructions
  have inner : ∀ (i : Nat) (hi : i < bs.length) (d j : Nat) (acc : List S60), j + d = (bs[i]).f0.length → acc.length = cntB (bs.take i) + cnt ((bs[i]).f0.take j) → ∀ r,
      Ev (fun k => impl_places.l0 k (acc ++ rowP i j ((bs[i]).f0.drop j)) bs (bs.length : Int) ((i + 1 : Nat) : Int)) r →
      Ev (fun k => impl_places.l1 k acc (i : Int) bs (bs.length : Int) (i : Int) (bs[i]).f0 ((bs[i]).f0.length : Int) (j : Int)) r := by
    intro i hi d
    have hsm := hs _ (List.getElem_mem hi)
    induction d with
    | zero =>
      intro j acc hj hacc r h
      have hj' : (bs[i]).f0.drop j = [] := List.drop_eq_nil_of_le (by omega)
      rw [hj'] at h
      refine Ev.step (fun k => ?_) h
      simp only [impl_places.l1]
      rw [if_neg (by omega), wrap64_next hi (by omega)]
      simp [rowP]
    | succ d ih =>
      intro j acc hj hacc r h
      have hlt : j < (bs[i]).f0.length := by omega
      have hb := hsm.1
      have hcl : cntB (bs.take (i + 1)) ≤ cntB bs := cntB_take_le bs (i + 1)
      rw [cntB_at bs i hi] at hcl
      have hct : cnt ((bs[i]).f0.take (j + 1)) ≤ cnt (bs[i]).f0 := cnt_take_le _ _
      rw [List.drop_eq_getElem_cons hlt] at h
      by_cases c : isV ((bs[i]).f0)[j] = true
      · have hc1 := cnt_at _ j hlt
        rw [if_pos c] at hc1
        have g := ih (j + 1) (acc ++ [⟨(i : Int), (j : Int)⟩]) (by omega) (by rw [List.length_append, hacc]; simp; omega) r (by
          simp only [rowP] at h
          rw [if_pos c] at h
          simpa using h)
        refine Ev.step (fun k => ?_) g
        simp only [impl_places.l1]
        rw [if_pos (by omega), if_pos (by omega), if_pos (by omega), rdII_at hlt, if_neg ((isV_iff _).1 c), if_pos (by omega), wrap64_next hlt (by omega)]
      · have hc1 := cnt_at _ j hlt
        rw [if_neg c] at hc1
        have g := ih (j + 1) acc (by omega) (by omega) r (by
          simp only [rowP] at h
          rw [if_neg c] at h
          exact h)
        refine Ev.step (fun k => ?_) g
        simp only [impl_places.l1]
        have c0 : (((bs[i]).f0)[j]).f1 = 0 := by
          have := mt (isV_iff _).2 c
          simpa using this
        rw [if_pos (by omega), if_pos (by omega), if_pos (by omega), rdII_at hlt, if_pos c0, wrap64_next hlt (by omega)]
  have outer : ∀ (d i : Nat) (acc : List S60), i + d = bs.length → acc.length = cntB (bs.take i) → Ev (fun k => impl_places.l0 k acc bs (bs.length : Int) (i : Int)) (acc ++ allP i (bs.drop i)) := by
    intro d
    induction d with
    | zero =>
      intro i acc hi hacc
      have hi' : bs.drop i = [] := List.drop_eq_nil_of_le (by omega)
      rw [hi']
      refine Ev.step (f := fun _ => some (acc ++ allP i [])) (fun k => ?_) (Ev.now _)
      simp only [impl_places.l0]
      rw [if_neg (by omega)]
      simp [allP]
    | succ d ih =>
      intro i acc hi hacc
      have hlt : i < bs.length := by omega
      have hrow : (rowP i 0 (bs[i]).f0).length = cnt (bs[i]).f0 := rowP_len _ _ _
      have g := ih (i + 1) (acc ++ rowP i 0 (bs[i]).f0) (by omega) (by rw [List.length_append, hacc, hrow, cntB_at bs i hlt])
      rw [List.drop_eq_getElem_cons hlt]
      have e : acc ++ allP i (bs[i] :: bs.drop (i + 1)) = (acc ++ rowP i 0 (bs[i]).f0) ++ allP (i + 1) (bs.drop (i + 1)) := by simp [allP]
      rw [e]
      have hin := inner i hlt (bs[i]).f0.length 0 acc (by omega) (by rw [hacc]; simp [cnt]) _ (by rw [List.drop_zero]; exact g)
      refine Ev.step (fun k => ?_) hin
      simp only [impl_places.l0]
      rw [if_pos (by omega), if_pos (by omega), if_pos (by omega), rdIB_at hlt]
      rfl
  have := outer bs.length 0 [] (by omega) (by simp [cntB])
  simp only [List.nil_append, List.drop_zero] at this
  exact Ev.congr (fun k => rfl) this


/-- Number m of a list of places; (-1, -1): there is none. -/
def pick : List S60 → Int → Int × Int
  | [], _ => (-1, -1)
  | p :: ps, m => if m = 0 then (p.f0, p.f1) else pick ps (m - 1)
theorem pick_neg (L : List S60) : ∀ m : Int, m < 0 → pick L m = (-1, -1) := by
  induction L with
  | nil => intro m _; rfl
  | cons p ps ih =>
    intro m h
    unfold pick
    rw [if_neg (by omega)]
    exact ih _ (by omega)
theorem pick_at (L : List S60) : ∀ m : Nat, pick L (m : Int) = if h : m < L.length then ((L[m]).f0, (L[m]).f1) else (-1, -1) := by
  induction L with
  | nil => intro m; simp [pick]
  | cons p ps ih =>
    intro m
    unfold pick
    cases m with
    | zero => simp
    | succ m =>
      rw [if_neg (by omega), show ((m + 1 : Nat) : Int) - 1 = (m : Int) by omega, ih m]
      simp
theorem spec_ev (s : ByteArray) (a : Int) (l2 : List Int) (b : Int) (bs : List S87) (h2 : l2.length ≤ 1048576) (hl : bs.length ≤ 1048576) (hs : ∀ x ∈ bs, smIB x) (v : Int) :
    Ev (fun k => spec_DefinedAt.f k s a l2 b bs v) (pick (allP 0 bs) (v - l2.length)) := by
  have hcap : cntB bs ≤ 1099511627776 := by
    have := cntB_le bs hs
    have h2 : bs.length * 1048576 ≤ 1048576 * 1048576 := Nat.mul_le_mul_right _ hl
    omega
  have inner : ∀ (i : Nat) (hi : i < bs.length) (d j : Nat), j + d = (bs[i]).f0.length → ∀ rest,
      Ev (fun k => spec_DefinedAt.l0 k v (((l2.length + cntB (bs.take (i + 1)) : Nat)) : Int) ((i + 1 : Nat) : Int) s a l2 b bs) (pick rest (v - (((l2.length + cntB (bs.take (i + 1)) : Nat)) : Int))) →
      Ev (fun k => spec_DefinedAt.l1 k v (((l2.length + (cntB (bs.take i) + cnt ((bs[i]).f0.take j)) : Nat)) : Int) (i : Int) (j : Int) s a l2 b bs) (pick (rowP i j ((bs[i]).f0.drop j) ++ rest) (v - (((l2.length + (cntB (bs.take i) + cnt ((bs[i]).f0.take j)) : Nat)) : Int))) := by
    intro i hi d
    have hsm := hs _ (List.getElem_mem hi)
    have hcl : cntB (bs.take (i + 1)) ≤ cntB bs := cntB_take_le bs (i + 1)
    have hcl2 := cntB_at bs i hi
    induction d with
    | zero =>
      intro j hj rest h1
      have e : cnt ((bs[i]).f0.take j) = cnt (bs[i]).f0 := by rw [List.take_of_length_le (by omega)]
      have e2 : (bs[i]).f0.drop j = [] := List.drop_eq_nil_of_le (by omega)
      rw [hcl2] at h1
      rw [e2, e]
      simp only [rowP, List.nil_append]
      refine Ev.step (fun k => ?_) h1
      simp only [spec_DefinedAt.l1]
      rw [if_pos (by omega), if_pos (by omega), rdIB_at hi, if_neg (by omega), wrap64_next hi (by omega)]
    | succ d ih =>
      intro j hj rest h1
      have hlt : j < (bs[i]).f0.length := by omega
      have hg := hsm.1
      have hc1 := cnt_at _ j hlt
      have hct : cnt ((bs[i]).f0.take (j + 1)) ≤ cnt (bs[i]).f0 := cnt_take_le _ _
      have g := ih (j + 1) (by omega) rest h1
      rw [List.drop_eq_getElem_cons hlt]
      simp only [rowP]
      by_cases c : isV ((bs[i]).f0)[j] = true
      · rw [if_pos c]
        rw [if_pos c] at hc1
        rw [hc1] at g
        simp only [List.cons_append, pick]
        by_cases m0 : v - (((l2.length + (cntB (bs.take i) + cnt ((bs[i]).f0.take j)) : Nat)) : Int) = 0
        · rw [if_pos m0]
          refine Ev.step (f := fun _ => some ((i : Int), (j : Int))) (fun k => ?_) (Ev.now _)
          simp only [spec_DefinedAt.l1]
          rw [if_pos (by omega), if_pos (by omega), rdIB_at hi, if_pos (by omega), if_pos (by omega), rdII_at hlt, if_neg ((isV_iff _).1 c), if_pos (by omega)]
        · rw [if_neg m0]
          have e : v - (((l2.length + (cntB (bs.take i) + cnt ((bs[i]).f0.take j)) : Nat)) : Int) - 1 = v - (((l2.length + (cntB (bs.take i) + (cnt ((bs[i]).f0.take j) + 1)) : Nat)) : Int) := by omega
          rw [e]
          refine Ev.step (fun k => ?_) g
          simp only [spec_DefinedAt.l1]
          rw [if_pos (by omega), if_pos (by omega), rdIB_at hi, if_pos (by omega), if_pos (by omega), rdII_at hlt, if_neg ((isV_iff _).1 c), if_neg (by omega), wrap64_next hlt (by omega), wrap64_id (by omega) (by omega)]
          congr 1
      · rw [if_neg c]
        rw [if_neg c] at hc1
        rw [hc1] at g
        simp only [Nat.add_zero] at g
        have c0 : (((bs[i]).f0)[j]).f1 = 0 := by
          have := mt (isV_iff _).2 c
          simpa using this
        refine Ev.step (fun k => ?_) g
        simp only [spec_DefinedAt.l1]
        rw [if_pos (by omega), if_pos (by omega), rdIB_at hi, if_pos (by omega), if_pos (by omega), rdII_at hlt, if_pos c0, wrap64_next hlt (by omega)]
  have outer : ∀ (d i : Nat), i + d = bs.length → Ev (fun k => spec_DefinedAt.l0 k v (((l2.length + cntB (bs.take i) : Nat)) : Int) (i : Int) s a l2 b bs) (pick (allP i (bs.drop i)) (v - (((l2.length + cntB (bs.take i) : Nat)) : Int))) := by
    intro d
    induction d with
    | zero =>
      intro i hi
      have e2 : bs.drop i = [] := List.drop_eq_nil_of_le (by omega)
      rw [e2]
      refine Ev.step (f := fun _ => some (-1, -1)) (fun k => ?_) (Ev.now _)
      simp only [spec_DefinedAt.l0]
      rw [if_neg (by omega)]
    | succ d ih =>
      intro i hi
      have hlt : i < bs.length := by omega
      have g := inner i hlt (bs[i]).f0.length 0 (by omega) _ (ih (i + 1) (by omega))
      rw [List.drop_eq_getElem_cons hlt]
      simp only [allP]
      simp only [List.take_zero, List.drop_zero, show cnt [] = 0 from rfl, Nat.add_zero] at g
      refine Ev.step (fun k => ?_) g
      simp only [spec_DefinedAt.l0]
      rw [if_pos (by omega)]
      rfl
  have := outer bs.length 0 (by omega)
  simp only [List.take_zero, show cntB [] = 0 from rfl, Nat.add_zero, List.drop_zero] at this
  exact this
theorem impl_ev (s : ByteArray) (a : Int) (l2 : List Int) (b : Int) (bs : List S87) (h2 : l2.length ≤ 1048576) (hl : bs.length ≤ 1048576) (hs : ∀ x ∈ bs, smIB x) (v : Int) (hv0 : -9223372036854775808 ≤ v) (hv1 : v ≤ 9223372036854775807) :
    Ev (fun k => impl_DefinedAt.f k s a l2 b bs v) (pick (allP 0 bs) (v - l2.length)) := by
  have hcap : cntB bs ≤ 1099511627776 := by
    have := cntB_le bs hs
    have h2 : bs.length * 1048576 ≤ 1048576 * 1048576 := Nat.mul_le_mul_right _ hl
    omega
  have hlen := allP_len bs 0
  refine Ev.bind (f := fun _ t => if v < (l2.length : Int) then (some ((-1), (-1))) else (if v ≥ (wrap64 ((l2.length : Int) + (t.length : Int))) then (some ((-1), (-1))) else (if 0 ≤ (wrap64 (v - (l2.length : Int))) then (if (wrap64 (v - (l2.length : Int))) < (t.length : Int) then (some ((rd_T60 t (wrap64 (v - (l2.length : Int)))).f0, (rd_T60 t (wrap64 (v - (l2.length : Int)))).f1)) else (none)) else (none)))) (places_ev s a l2 b bs hl hs) (Ev.congr (f := fun _ => some (pick (allP 0 bs) (v - l2.length))) (fun k => ?_) (Ev.now _))
  generalize allP 0 bs = L at *
  by_cases c1 : v < (l2.length : Int)
  · rw [if_pos c1, pick_neg _ _ (by omega)]
  rw [if_neg c1]
  obtain ⟨m, hm⟩ := Int.eq_ofNat_of_zero_le (show 0 ≤ v - (l2.length : Int) by omega)
  have hp := pick_at L m
  rw [← hm] at hp
  rw [hp, wrap64_id (x := (l2.length : Int) + (L.length : Int)) (by omega) (by omega)]
  by_cases c2 : m < L.length
  · rw [dif_pos c2, if_neg (by omega), wrap64_id (by omega) (by omega), hm, if_pos (by omega), if_pos (by omega)]
    have e : rd_T60 L (m : Int) = L[m] := getD_at c2 _
    rw [e]
  · rw [dif_neg c2, if_pos (by omega)]
theorem FnExactDefinedAt : laws_FnExactDefinedAt.Pure := by
  intro s a l2 b l4 v hs _ h2 _ h4 hv
  have hvb : -9223372036854775808 ≤ v ∧ v ≤ 9223372036854775807 := by
    simp [Lit.wf, IntKind.min, IntKind.max, IntKind.signed, IntKind.bits] at hv
    omega
  obtain ⟨r, hsz, hsm⟩ := szFunc_ev s a l2 b l4 hs h2.1 h4.1 h4.2
  refine Ev.rounds (Ev.bind (f := fun k t => if t < 0 then some true else (laws_toFunc.f k s a l2 b l4).bind fun c => (spec_DefinedAt.f k c.1 c.2.1 c.2.2.1 c.2.2.2.1 c.2.2.2.2 v).bind fun g => (laws_toFunc.f k s a l2 b l4).bind fun d => (impl_DefinedAt.f k d.1 d.2.1 d.2.2.1 d.2.2.2.1 d.2.2.2.2 v).bind fun h => (laws_eqPlace.f h.1 h.2 g.1 g.2).bind fun z => if z = true then ((laws_toFunc.f k s a l2 b l4).bind fun e => (laws_eqFunc.f k d.1 d.2.1 d.2.2.1 d.2.2.2.1 d.2.2.2.2 e.1 e.2.1 e.2.2.1 e.2.2.2.1 e.2.2.2.2).bind fun q => if q = true then some true else some false) else some false) hsz ?_)
  by_cases hr : r < 0
  · exact Ev.congr (f := fun _ => some true) (fun k => if_pos hr) (Ev.now _)
  obtain ⟨g2, g4, gs⟩ := hsm (by omega)
  have tf := toFunc_ev s a l2 b l4 g2 g4 gs
  have hl : (l4.map cBl).length ≤ 1048576 := by simpa using g4
  have hsb : ∀ z ∈ l4.map cBl, smIB z := by
    intro z hz
    obtain ⟨w, hw, rfl⟩ := List.mem_map.1 hz
    exact smIB_of (gs w hw)
  have ev1 := spec_ev s a l2 b (l4.map cBl) g2 hl hsb v
  have ev2 := impl_ev s a l2 b (l4.map cBl) g2 hl hsb v hvb.1 hvb.2
  generalize pick (allP 0 (l4.map cBl)) (v - l2.length) = w at *
  refine Ev.congr (fun k => if_neg hr) (Ev.bind (f := fun k c => (spec_DefinedAt.f k c.1 c.2.1 c.2.2.1 c.2.2.2.1 c.2.2.2.2 v).bind fun g => (laws_toFunc.f k s a l2 b l4).bind fun d => (impl_DefinedAt.f k d.1 d.2.1 d.2.2.1 d.2.2.2.1 d.2.2.2.2 v).bind fun h => (laws_eqPlace.f h.1 h.2 g.1 g.2).bind fun z => if z = true then ((laws_toFunc.f k s a l2 b l4).bind fun e => (laws_eqFunc.f k d.1 d.2.1 d.2.2.1 d.2.2.2.1 d.2.2.2.2 e.1 e.2.1 e.2.2.1 e.2.2.2.1 e.2.2.2.2).bind fun q => if q = true then some true else some false) else some false) tf ?_)
  refine Ev.bind (f := fun k g => (laws_toFunc.f k s a l2 b l4).bind fun d => (impl_DefinedAt.f k d.1 d.2.1 d.2.2.1 d.2.2.2.1 d.2.2.2.2 v).bind fun h => (laws_eqPlace.f h.1 h.2 g.1 g.2).bind fun z => if z = true then ((laws_toFunc.f k s a l2 b l4).bind fun e => (laws_eqFunc.f k d.1 d.2.1 d.2.2.1 d.2.2.2.1 d.2.2.2.2 e.1 e.2.1 e.2.2.1 e.2.2.2.1 e.2.2.2.2).bind fun q => if q = true then some true else some false) else some false) ev1 ?_
  refine Ev.bind (f := fun k d => (impl_DefinedAt.f k d.1 d.2.1 d.2.2.1 d.2.2.2.1 d.2.2.2.2 v).bind fun h => (laws_eqPlace.f h.1 h.2 w.1 w.2).bind fun z => if z = true then ((laws_toFunc.f k s a l2 b l4).bind fun e => (laws_eqFunc.f k d.1 d.2.1 d.2.2.1 d.2.2.2.1 d.2.2.2.2 e.1 e.2.1 e.2.2.1 e.2.2.2.1 e.2.2.2.2).bind fun q => if q = true then some true else some false) else some false) tf ?_
  refine Ev.bind (f := fun k h => (laws_eqPlace.f h.1 h.2 w.1 w.2).bind fun z => if z = true then ((laws_toFunc.f k s a l2 b l4).bind fun e => (laws_eqFunc.f k s a l2 b (l4.map cBl) e.1 e.2.1 e.2.2.1 e.2.2.2.1 e.2.2.2.2).bind fun q => if q = true then some true else some false) else some false) ev2 ?_
  refine Ev.congr (f := fun k => (laws_toFunc.f k s a l2 b l4).bind fun e => (laws_eqFunc.f k s a l2 b (l4.map cBl) e.1 e.2.1 e.2.2.1 e.2.2.2.1 e.2.2.2.2).bind fun q => if q = true then some true else some false) (fun k => ?_) (Ev.bind (f := fun k e => (laws_eqFunc.f k s a l2 b (l4.map cBl) e.1 e.2.1 e.2.2.1 e.2.2.2.1 e.2.2.2.2).bind fun q => if q = true then some true else some false) tf ?_)
  · unfold laws_eqPlace.f
    simp only [if_true, Option.bind_some]
  exact Ev.bind (f := fun _ q => if q = true then some true else some false) (eqFunc_ev s a l2 b (l4.map cBl) g2 hl hsb) (Ev.now _)


end Go.Proofs.Ytcjdgimiobhhnaa.Pure
