/- FnExactValueTypes's plain law: both tell the types of the values of a function one behind the other; conditions: those that the row itself makes on what comes in -/
import Derived.Test.YthfhenhlfedfmaaOpenFnExactValueTypes
import Derived.Test.YthfhenhlfedfmaaPlGen
namespace Go.Proofs.Ythfhenhlfedfmaa.Pure
open Go.RowKit Go.Proofs.Ythfhenhlfedfmaa.QFnExactValueTypes Go.Proofs.Ythfhenhlfedfmaa.OpenFnExactValueTypes Go.Proofs.YthfhenhlfedfmaaW.PrintWords Go.Proofs.YthfhenhlfedfmaaW.PrintLast Go.Proofs.YthfhenhlfedfmaaW.PrintMore Go.Proofs.Ythfhenhlfedfmaa.RowOpen Go.Proofs.Ythfhenhlfedfmaa.PlGen
set_option linter.unusedSimpArgs false
set_option linter.unusedVariables false
set_option linter.unusedSectionVars false
set_option maxHeartbeats 4000000

/-! the structs of a function: measured, copied, compared -/
def cOp (x : S157) : S152 := ⟨x.f0, x.f1, x.f2, x.f3⟩
def cIn (x : S148) : S103 := ⟨x.f0, x.f1, x.f2, x.f3, x.f4, x.f5, x.f6.map cOp, x.f7, x.f8⟩
def cBl (x : S132) : S100 := ⟨x.f0.map cIn⟩
def smIn (x : S148) : Prop := x.f6.length ≤ 1048576 ∧ x.f7.length ≤ 1048576 ∧ x.f8.length ≤ 1048576
def smBl (x : S132) : Prop := x.f0.length ≤ 1048576 ∧ ∀ y ∈ x.f0, smIn y
theorem rdLI_at {xs : List S148} {i : Nat} (h : i < xs.length) : rd_T148 xs (i : Int) = xs[i] := getD_at h _
theorem rdLB_at {xs : List S132} {i : Nat} (h : i < xs.length) : rd_T132 xs (i : Int) = xs[i] := getD_at h _
theorem rdLO_at {xs : List S157} {i : Nat} (h : i < xs.length) : rd_T157 xs (i : Int) = xs[i] := getD_at h _
theorem rdII_at {xs : List S103} {i : Nat} (h : i < xs.length) : rd_T103 xs (i : Int) = xs[i] := getD_at h _
theorem rdIB_at {xs : List S100} {i : Nat} (h : i < xs.length) : rd_T100 xs (i : Int) = xs[i] := getD_at h _
theorem rdIO_at {xs : List S152} {i : Nat} (h : i < xs.length) : rd_T152 xs (i : Int) = xs[i] := getD_at h _

theorem laws_szInt64S_at (l : List Int) (left : Int) (hl : l.length ≤ 9223372036854775807) (h0 : 0 ≤ left) (h1 : left ≤ 1048576) : laws_szInt64S.f l left = some (if left - (l.length : Int) < 0 then -1 else left - l.length) := by
  unfold laws_szInt64S.f
  rw [wrap64_id (by omega) (by omega)]
  split <;> rfl
theorem laws_szUint64S_at (l : List Int) (left : Int) (hl : l.length ≤ 9223372036854775807) (h0 : 0 ≤ left) (h1 : left ≤ 1048576) : laws_szUint64S.f l left = some (if left - (l.length : Int) < 0 then -1 else left - l.length) := by
  unfold laws_szUint64S.f
  rw [wrap64_id (by omega) (by omega)]
  split <;> rfl
theorem laws_szOperandS_at (l : List S157) (left : Int) (hl : l.length ≤ 9223372036854775807) (h0 : 0 ≤ left) (h1 : left ≤ 1048576) : laws_szOperandS.f l left = some (if left - (l.length : Int) < 0 then -1 else left - l.length) := by
  unfold laws_szOperandS.f
  rw [wrap64_id (by omega) (by omega)]
  split <;> rfl

theorem szInstr_at (x : S148) (left : Int) (hq : q148 x) (h0 : 0 ≤ left) (h1 : left ≤ 1048576) :
    ∃ r, laws_szInstr.f x.f0 x.f1 x.f2 x.f3 x.f4 x.f5 x.f6 x.f7 x.f8 left = some r ∧ r ≤ left ∧ -1 ≤ r ∧ (0 ≤ r → smIn x) := by
  obtain ⟨_, _, _, _, _, _, ⟨g6, _⟩, ⟨g7, _⟩, ⟨g8, _⟩⟩ := hq
  simp only [maxLen] at g6 g7 g8
  unfold laws_szInstr.f
  rw [laws_szOperandS_at _ _ g6 h0 h1]
  simp only [Option.bind_some]
  by_cases c1 : left - (x.f6.length : Int) < 0
  · rw [if_pos c1, if_pos (by omega)]
    exact ⟨-1, rfl, by omega, by omega, fun h => by omega⟩
  rw [if_neg c1, if_neg c1, laws_szInt64S_at _ _ g7 (by omega) (by omega)]
  simp only [Option.bind_some]
  by_cases c2 : left - (x.f6.length : Int) - (x.f7.length : Int) < 0
  · rw [if_pos c2, if_pos (by omega)]
    exact ⟨-1, rfl, by omega, by omega, fun h => by omega⟩
  rw [if_neg c2, if_neg c2, laws_szUint64S_at _ _ g8 (by omega) (by omega)]
  simp only [Option.bind_some]
  by_cases c3 : left - (x.f6.length : Int) - (x.f7.length : Int) - (x.f8.length : Int) < 0
  · rw [if_pos c3, if_pos (by omega)]
    exact ⟨-1, rfl, by omega, by omega, fun h => by omega⟩
  rw [if_neg c3, if_neg c3]
  exact ⟨_, rfl, by omega, by omega, fun _ => ⟨by omega, by omega, by omega⟩⟩
theorem szInstrS_ev (l : List S148) (left : Int) (hl : l.length ≤ 9223372036854775807) (hq : ∀ x ∈ l, q148 x) (h0 : 0 ≤ left) (h1 : left ≤ 1048576) :
    ∃ r, Ev (fun k => laws_szInstrS.f k l left) r ∧ r ≤ left ∧ -1 ≤ r ∧ (0 ≤ r → l.length ≤ 1048576 ∧ ∀ x ∈ l, smIn x) := by
  by_cases c : left - (l.length : Int) < 0
  · refine ⟨-1, Ev.congr (f := fun _ => some (-1)) (fun k => ?_) (Ev.now _), by omega, by omega, fun h => by omega⟩
    unfold laws_szInstrS.f
    rw [wrap64_id (by omega) (by omega), if_pos c]
  · obtain ⟨r, hr, hr1, hev, hall⟩ := sz_loop (fun k left i => laws_szInstrS.l0 k l left i) l smIn (fun k left => by simp only [laws_szInstrS.l0]; rw [if_neg (by omega)])
      (fun i hi lf b0 b1 => by
        obtain ⟨r, he, hr, hr1, hs⟩ := szInstr_at l[i] lf (hq _ (List.getElem_mem hi)) b0 b1
        have step : ∀ k, laws_szInstrS.l0 (k + 1) l lf (i : Int) = if r < 0 then some (-1) else laws_szInstrS.l0 k l r ((i + 1 : Nat) : Int) := by
          intro k
          simp only [laws_szInstrS.l0]
          rw [if_pos (by omega), if_pos (by omega), rdLI_at hi, he, wrap64_next hi hl]
          rfl
        refine ⟨r, hr, fun hn => Ev.step (f := fun _ => some (-1)) (fun k => by rw [step k, if_pos hn]) (Ev.now _), fun hp => ⟨hs hp, fun q hq => Ev.step (fun k => by rw [step k, if_neg (by omega)]) hq⟩⟩)
      (left - l.length) (by omega) (by omega)
    refine ⟨r, Ev.congr (fun k => ?_) hev, by omega, hr1, fun h => ⟨by omega, hall h⟩⟩
    unfold laws_szInstrS.f
    rw [wrap64_id (by omega) (by omega), if_neg c]
theorem szBlock_ev (x : S132) (left : Int) (hq : q132 x) (h0 : 0 ≤ left) (h1 : left ≤ 1048576) : ∃ r, Ev (fun k => laws_szBlock.f k x.f0 left) r ∧ r ≤ left ∧ -1 ≤ r ∧ (0 ≤ r → smBl x) := by
  obtain ⟨g, hg⟩ := hq
  simp only [maxLen] at g
  obtain ⟨r, hev, hr, hr1, hs⟩ := szInstrS_ev x.f0 left g hg h0 h1
  refine ⟨r, ?_, hr, hr1, hs⟩
  refine Ev.bind (f := fun _ t => if t < 0 then some (-1) else some t) hev (Ev.congr (f := fun _ => some r) (fun k => ?_) (Ev.now r))
  by_cases c : r < 0
  · rw [if_pos c, show r = -1 by omega]
  · rw [if_neg c]
theorem szBlockS_ev (l : List S132) (left : Int) (hl : l.length ≤ 9223372036854775807) (hq : ∀ x ∈ l, q132 x) (h0 : 0 ≤ left) (h1 : left ≤ 1048576) :
    ∃ r, Ev (fun k => laws_szBlockS.f k l left) r ∧ r ≤ left ∧ -1 ≤ r ∧ (0 ≤ r → l.length ≤ 1048576 ∧ ∀ x ∈ l, smBl x) := by
  by_cases c : left - (l.length : Int) < 0
  · refine ⟨-1, Ev.congr (f := fun _ => some (-1)) (fun k => ?_) (Ev.now _), by omega, by omega, fun h => by omega⟩
    unfold laws_szBlockS.f
    rw [wrap64_id (by omega) (by omega), if_pos c]
  · obtain ⟨r, hr, hr1, hev, hall⟩ := sz_loop (fun k left i => laws_szBlockS.l0 k l left i) l smBl (fun k left => by simp only [laws_szBlockS.l0]; rw [if_neg (by omega)])
      (fun i hi lf b0 b1 => by
        obtain ⟨r, he, hr, hr1, hs⟩ := szBlock_ev l[i] lf (hq _ (List.getElem_mem hi)) b0 b1
        have step : ∀ k, laws_szBlockS.l0 (k + 1) l lf (i : Int) = (laws_szBlock.f k (l[i]).f0 lf).bind fun t => if t < 0 then some (-1) else laws_szBlockS.l0 k l t ((i + 1 : Nat) : Int) := by
          intro k
          simp only [laws_szBlockS.l0]
          rw [if_pos (by omega), if_pos (by omega), rdLB_at hi, wrap64_next hi hl]
        refine ⟨r, hr, fun hn => Ev.step step (Ev.bind (f := fun k t => if t < 0 then some (-1) else laws_szBlockS.l0 k l t ((i + 1 : Nat) : Int)) he (Ev.congr (f := fun _ => some (-1)) (fun k => if_pos hn) (Ev.now _))),
          fun hp => ⟨hs hp, fun q hq => Ev.step step (Ev.bind (f := fun k t => if t < 0 then some (-1) else laws_szBlockS.l0 k l t ((i + 1 : Nat) : Int)) he (Ev.congr (fun k => if_neg (by omega)) hq))⟩⟩)
      (left - l.length) (by omega) (by omega)
    refine ⟨r, Ev.congr (fun k => ?_) hev, by omega, hr1, fun h => ⟨by omega, hall h⟩⟩
    unfold laws_szBlockS.f
    rw [wrap64_id (by omega) (by omega), if_neg c]
theorem szFunc_ev (s : ByteArray) (a : Int) (l2 : List Int) (b : Int) (l4 : List S132) (hs : s.size ≤ 9223372036854775807) (h2 : l2.length ≤ 9223372036854775807) (h4 : l4.length ≤ 9223372036854775807) (hq : ∀ x ∈ l4, q132 x) :
    ∃ r, Ev (fun k => laws_szFunc.f k s a l2 b l4 1048576) r ∧ (0 ≤ r → l2.length ≤ 1048576 ∧ l4.length ≤ 1048576 ∧ ∀ x ∈ l4, smBl x) := by
  by_cases c1 : (1048576 : Int) - (s.size : Int) < 0
  · refine ⟨-1, Ev.congr (f := fun _ => some (-1)) (fun k => ?_) (Ev.now _), fun h => by omega⟩
    unfold laws_szFunc.f
    rw [wrap64_id (by omega) (by omega), if_pos c1]
  by_cases c2 : (1048576 : Int) - (s.size : Int) - (l2.length : Int) < 0
  · refine ⟨-1, Ev.congr (f := fun _ => some (-1)) (fun k => ?_) (Ev.now _), fun h => by omega⟩
    unfold laws_szFunc.f
    rw [wrap64_id (by omega) (by omega), if_neg c1, laws_szInt64S_at _ _ h2 (by omega) (by omega), if_pos c2]
    rfl
  obtain ⟨r, hev, hr, hr1, hsm⟩ := szBlockS_ev l4 (1048576 - (s.size : Int) - (l2.length : Int)) h4 hq (by omega) (by omega)
  refine ⟨r, Ev.congr (f := fun k => (laws_szBlockS.f k l4 (1048576 - (s.size : Int) - (l2.length : Int))).bind fun t => if t < 0 then some (-1) else some t) (fun k => ?_) ?_, fun h => ⟨by omega, hsm h⟩⟩
  · unfold laws_szFunc.f
    rw [wrap64_id (by omega) (by omega), if_neg c1, laws_szInt64S_at _ _ h2 (by omega) (by omega), if_neg c2]
    simp only [Option.bind_some]
    rw [if_neg c2]
  · refine Ev.bind (f := fun _ t => if t < 0 then some (-1) else some t) hev (Ev.congr (f := fun _ => some r) (fun k => ?_) (Ev.now r))
    by_cases c : r < 0
    · rw [if_pos c, show r = -1 by omega]
    · rw [if_neg c]

theorem laws_toInt64S_ev (l : List Int) (hl : l.length ≤ 1048576) : Ev (fun k => laws_toInt64S.f k l) l := by
  have := copy_loop (fun k ys i => laws_toInt64S.l0 k l ys i) l (fun x => x) (fun k ys => by simp only [laws_toInt64S.l0]; rw [if_neg (by omega)])
    (fun i hi ys hy r h => by
      refine Ev.step (f := fun k => laws_toInt64S.l0 k l (ys.set i l[i]) ((i + 1 : Nat) : Int)) (fun k => ?_) h
      simp only [laws_toInt64S.l0]
      rw [if_pos (by omega), if_pos (by omega), if_pos (by omega), rd_at hi, wrap64_next hi (by omega)]
      rfl) (List.replicate ((l.length : Int)).toNat 0) (by simp)
  rw [List.map_id'] at this
  refine Ev.congr (fun k => ?_) this
  unfold laws_toInt64S.f
  rw [if_pos (by omega), if_pos (by omega)]
theorem laws_toUint64S_ev (l : List Int) (hl : l.length ≤ 1048576) : Ev (fun k => laws_toUint64S.f k l) l := by
  have := copy_loop (fun k ys i => laws_toUint64S.l0 k l ys i) l (fun x => x) (fun k ys => by simp only [laws_toUint64S.l0]; rw [if_neg (by omega)])
    (fun i hi ys hy r h => by
      refine Ev.step (f := fun k => laws_toUint64S.l0 k l (ys.set i l[i]) ((i + 1 : Nat) : Int)) (fun k => ?_) h
      simp only [laws_toUint64S.l0]
      rw [if_pos (by omega), if_pos (by omega), if_pos (by omega), rd_at hi, wrap64_next hi (by omega)]
      rfl) (List.replicate ((l.length : Int)).toNat 0) (by simp)
  rw [List.map_id'] at this
  refine Ev.congr (fun k => ?_) this
  unfold laws_toUint64S.f
  rw [if_pos (by omega), if_pos (by omega)]

theorem toOperandS_ev (l : List S157) (hl : l.length ≤ 1048576) : Ev (fun k => laws_toOperandS.f k l) (l.map cOp) := by
  have := copy_loop (fun k ys i => laws_toOperandS.l0 k l ys i) l cOp (fun k ys => by simp only [laws_toOperandS.l0]; rw [if_neg (by omega)])
    (fun i hi ys hy r h => by
      refine Ev.step (f := fun k => laws_toOperandS.l0 k l (ys.set i (cOp l[i])) ((i + 1 : Nat) : Int)) (fun k => ?_) h
      simp only [laws_toOperandS.l0]
      rw [if_pos (by omega), if_pos (by omega), rdLO_at hi, wrap64_next hi (by omega)]
      unfold laws_toOperand.f
      simp only [Option.bind_some]
      rw [if_pos (by omega)]
      rfl) (List.replicate ((l.length : Int)).toNat z152) (by simp)
  refine Ev.congr (fun k => ?_) this
  unfold laws_toOperandS.f
  rw [if_pos (by omega), if_pos (by omega)]
theorem toInstr_ev (x : S148) (h : smIn x) : Ev (fun k => laws_toInstr.f k x.f0 x.f1 x.f2 x.f3 x.f4 x.f5 x.f6 x.f7 x.f8) (x.f0, x.f1, x.f2, x.f3, x.f4, x.f5, x.f6.map cOp, x.f7, x.f8) := by
  obtain ⟨g6, g7, g8⟩ := h
  exact Ev.bind (f := fun k t => (laws_toInt64S.f k x.f7).bind fun t1 => (laws_toUint64S.f k x.f8).bind fun t2 => some (x.f0, x.f1, x.f2, x.f3, x.f4, x.f5, t, t1, t2)) (toOperandS_ev x.f6 g6)
    (Ev.bind (f := fun k t1 => (laws_toUint64S.f k x.f8).bind fun t2 => some (x.f0, x.f1, x.f2, x.f3, x.f4, x.f5, x.f6.map cOp, t1, t2)) (laws_toInt64S_ev x.f7 g7)
      (Ev.bind (f := fun _ t2 => some (x.f0, x.f1, x.f2, x.f3, x.f4, x.f5, x.f6.map cOp, x.f7, t2)) (laws_toUint64S_ev x.f8 g8) (Ev.now _)))
theorem toInstrS_ev (l : List S148) (hl : l.length ≤ 1048576) (hs : ∀ x ∈ l, smIn x) : Ev (fun k => laws_toInstrS.f k l) (l.map cIn) := by
  have := copy_loop (fun k ys i => laws_toInstrS.l0 k l ys i) l cIn (fun k ys => by simp only [laws_toInstrS.l0]; rw [if_neg (by omega)])
    (fun i hi ys hy r h => by
      refine Ev.step (f := fun k => (laws_toInstr.f k (l[i]).f0 (l[i]).f1 (l[i]).f2 (l[i]).f3 (l[i]).f4 (l[i]).f5 (l[i]).f6 (l[i]).f7 (l[i]).f8).bind fun t => laws_toInstrS.l0 k l (ys.set i ⟨t.1, t.2.1, t.2.2.1, t.2.2.2.1, t.2.2.2.2.1, t.2.2.2.2.2.1, t.2.2.2.2.2.2.1, t.2.2.2.2.2.2.2.1, t.2.2.2.2.2.2.2.2⟩) ((i + 1 : Nat) : Int)) (fun k => ?_) ?_
      · simp only [laws_toInstrS.l0]
        rw [if_pos (by omega), if_pos (by omega), rdLI_at hi, wrap64_next hi (by omega)]
        simp only [if_pos (show (i : Int) < (ys.length : Int) by omega)]
        rfl
      · exact Ev.bind (f := fun k t => laws_toInstrS.l0 k l (ys.set i ⟨t.1, t.2.1, t.2.2.1, t.2.2.2.1, t.2.2.2.2.1, t.2.2.2.2.2.1, t.2.2.2.2.2.2.1, t.2.2.2.2.2.2.2.1, t.2.2.2.2.2.2.2.2⟩) ((i + 1 : Nat) : Int)) (toInstr_ev l[i] (hs _ (List.getElem_mem hi))) h) (List.replicate ((l.length : Int)).toNat z103) (by simp)
  refine Ev.congr (fun k => ?_) this
  unfold laws_toInstrS.f
  rw [if_pos (by omega), if_pos (by omega)]
theorem toBlockS_ev (l : List S132) (hl : l.length ≤ 1048576) (hs : ∀ x ∈ l, smBl x) : Ev (fun k => laws_toBlockS.f k l) (l.map cBl) := by
  have := copy_loop (fun k ys i => laws_toBlockS.l0 k l ys i) l cBl (fun k ys => by simp only [laws_toBlockS.l0]; rw [if_neg (by omega)])
    (fun i hi ys hy r h => by
      refine Ev.step (f := fun k => (laws_toBlock.f k (l[i]).f0).bind fun t => laws_toBlockS.l0 k l (ys.set i ⟨t⟩) ((i + 1 : Nat) : Int)) (fun k => ?_) ?_
      · simp only [laws_toBlockS.l0]
        rw [if_pos (by omega), if_pos (by omega), rdLB_at hi, wrap64_next hi (by omega)]
        simp only [if_pos (show (i : Int) < (ys.length : Int) by omega)]
        rfl
      · obtain ⟨g, hg⟩ := hs _ (List.getElem_mem hi)
        exact Ev.bind (f := fun k t => laws_toBlockS.l0 k l (ys.set i ⟨t⟩) ((i + 1 : Nat) : Int)) (Ev.bind (f := fun _ t => some t) (toInstrS_ev (l[i]).f0 g hg) (Ev.now _)) h) (List.replicate ((l.length : Int)).toNat z100) (by simp)
  refine Ev.congr (fun k => ?_) this
  unfold laws_toBlockS.f
  rw [if_pos (by omega), if_pos (by omega)]
theorem toFunc_ev (s : ByteArray) (a : Int) (l2 : List Int) (b : Int) (l4 : List S132) (h2 : l2.length ≤ 1048576) (h4 : l4.length ≤ 1048576) (hs : ∀ x ∈ l4, smBl x) :
    Ev (fun k => laws_toFunc.f k s a l2 b l4) (s, a, l2, b, l4.map cBl) :=
  Ev.bind (f := fun k t => (laws_toBlockS.f k l4).bind fun t1 => some (s, a, t, b, t1)) (laws_toInt64S_ev l2 h2) (Ev.bind (f := fun _ t1 => some (s, a, l2, b, t1)) (toBlockS_ev l4 h4 hs) (Ev.now _))

theorem laws_eqInt64S_ev (l : List Int) (hl : l.length ≤ 1048576) : Ev (fun k => laws_eqInt64S.f k l l) true := by
  have := eq_loop (fun k i => laws_eqInt64S.l0 k l l i) l.length (fun k => by simp only [laws_eqInt64S.l0]; rw [if_neg (by omega)])
    (fun i hi h => by
      refine Ev.step (f := fun k => laws_eqInt64S.l0 k l l ((i + 1 : Nat) : Int)) (fun k => ?_) h
      simp only [laws_eqInt64S.l0]
      rw [if_pos (by omega), if_pos (by omega), if_pos (by omega), if_pos trivial, wrap64_next hi (by omega)])
  refine Ev.congr (fun k => ?_) this
  unfold laws_eqInt64S.f
  rw [if_pos rfl]
theorem laws_eqUint64S_ev (l : List Int) (hl : l.length ≤ 1048576) : Ev (fun k => laws_eqUint64S.f k l l) true := by
  have := eq_loop (fun k i => laws_eqUint64S.l0 k l l i) l.length (fun k => by simp only [laws_eqUint64S.l0]; rw [if_neg (by omega)])
    (fun i hi h => by
      refine Ev.step (f := fun k => laws_eqUint64S.l0 k l l ((i + 1 : Nat) : Int)) (fun k => ?_) h
      simp only [laws_eqUint64S.l0]
      rw [if_pos (by omega), if_pos (by omega), if_pos (by omega), if_pos trivial, wrap64_next hi (by omega)])
  refine Ev.congr (fun k => ?_) this
  unfold laws_eqUint64S.f
  rw [if_pos rfl]

theorem eqOperandS_ev (l : List S152) (hl : l.length ≤ 1048576) : Ev (fun k => laws_eqOperandS.f k l l) true := by
  have := eq_loop (fun k i => laws_eqOperandS.l0 k l l i) l.length (fun k => by simp only [laws_eqOperandS.l0]; rw [if_neg (by omega)])
    (fun i hi h => by
      refine Ev.step (f := fun k => laws_eqOperandS.l0 k l l ((i + 1 : Nat) : Int)) (fun k => ?_) h
      simp only [laws_eqOperandS.l0]
      rw [if_pos (by omega), if_pos (by omega), if_pos (by omega), wrap64_next hi (by omega)]
      unfold laws_eqOperand.f
      simp only [if_true, Option.bind_some])
  refine Ev.congr (fun k => ?_) this
  unfold laws_eqOperandS.f
  rw [if_pos rfl]
def smII (x : S103) : Prop := x.f6.length ≤ 1048576 ∧ x.f7.length ≤ 1048576 ∧ x.f8.length ≤ 1048576
def smIB (x : S100) : Prop := x.f0.length ≤ 1048576 ∧ ∀ y ∈ x.f0, smII y
theorem smII_of {x : S148} (h : smIn x) : smII (cIn x) := ⟨by simpa [cIn] using h.1, h.2.1, h.2.2⟩
theorem smIB_of {x : S132} (h : smBl x) : smIB (cBl x) := ⟨by simpa [cBl] using h.1, fun y hy => by
  simp only [cBl, List.mem_map] at hy
  obtain ⟨z, hz, rfl⟩ := hy
  exact smII_of (h.2 z hz)⟩
theorem eqInstr_ev (x : S103) (h : smII x) : Ev (fun k => laws_eqInstr.f k x.f0 x.f1 x.f2 x.f3 x.f4 x.f5 x.f6 x.f7 x.f8 x.f0 x.f1 x.f2 x.f3 x.f4 x.f5 x.f6 x.f7 x.f8) true := by
  obtain ⟨g6, g7, g8⟩ := h
  refine Ev.congr (f := fun k => (laws_eqOperandS.f k x.f6 x.f6).bind fun t => if t = true then ((laws_eqInt64S.f k x.f7 x.f7).bind fun t1 => if t1 = true then ((laws_eqUint64S.f k x.f8 x.f8).bind fun t2 => if t2 = true then some true else some false) else some false) else some false) (fun k => ?_) ?_
  · unfold laws_eqInstr.f
    simp only [if_true]
  · exact Ev.bind (f := fun k t => if t = true then ((laws_eqInt64S.f k x.f7 x.f7).bind fun t1 => if t1 = true then ((laws_eqUint64S.f k x.f8 x.f8).bind fun t2 => if t2 = true then some true else some false) else some false) else some false) (eqOperandS_ev _ g6)
      (Ev.bind (f := fun k t1 => if t1 = true then ((laws_eqUint64S.f k x.f8 x.f8).bind fun t2 => if t2 = true then some true else some false) else some false) (laws_eqInt64S_ev _ g7)
        (Ev.bind (f := fun _ t2 => if t2 = true then some true else some false) (laws_eqUint64S_ev _ g8) (Ev.now _)))
theorem eqInstrS_ev (l : List S103) (hl : l.length ≤ 1048576) (hs : ∀ x ∈ l, smII x) : Ev (fun k => laws_eqInstrS.f k l l) true := by
  have := eq_loop (fun k i => laws_eqInstrS.l0 k l l i) l.length (fun k => by simp only [laws_eqInstrS.l0]; rw [if_neg (by omega)])
    (fun i hi h => by
      have e := eqInstr_ev l[i] (hs _ (List.getElem_mem hi))
      refine Ev.step (fun k => ?_) (Ev.bind (f := fun k t => if t = true then laws_eqInstrS.l0 k l l ((i + 1 : Nat) : Int) else some false) e h)
      simp only [laws_eqInstrS.l0]
      rw [if_pos (by omega), if_pos (by omega), if_pos (by omega), wrap64_next hi (by omega), rdII_at hi])
  refine Ev.congr (fun k => ?_) this
  unfold laws_eqInstrS.f
  rw [if_pos rfl]
theorem eqBlockS_ev (l : List S100) (hl : l.length ≤ 1048576) (hs : ∀ x ∈ l, smIB x) : Ev (fun k => laws_eqBlockS.f k l l) true := by
  have := eq_loop (fun k i => laws_eqBlockS.l0 k l l i) l.length (fun k => by simp only [laws_eqBlockS.l0]; rw [if_neg (by omega)])
    (fun i hi h => by
      obtain ⟨g, hg⟩ := hs _ (List.getElem_mem hi)
      have e : Ev (fun k => laws_eqBlock.f k (l[i]).f0 (l[i]).f0) true := Ev.bind (f := fun _ t => if t = true then some true else some false) (eqInstrS_ev _ g hg) (Ev.now _)
      refine Ev.step (fun k => ?_) (Ev.bind (f := fun k t => if t = true then laws_eqBlockS.l0 k l l ((i + 1 : Nat) : Int) else some false) e h)
      simp only [laws_eqBlockS.l0]
      rw [if_pos (by omega), if_pos (by omega), if_pos (by omega), wrap64_next hi (by omega), rdIB_at hi])
  refine Ev.congr (fun k => ?_) this
  unfold laws_eqBlockS.f
  rw [if_pos rfl]
theorem eqFunc_ev (s : ByteArray) (a : Int) (l2 : List Int) (b : Int) (l4 : List S100) (h2 : l2.length ≤ 1048576) (h4 : l4.length ≤ 1048576) (hs : ∀ x ∈ l4, smIB x) :
    Ev (fun k => laws_eqFunc.f k s a l2 b l4 s a l2 b l4) true := by
  refine Ev.congr (f := fun k => (laws_eqInt64S.f k l2 l2).bind fun t => if t = true then ((laws_eqBlockS.f k l4 l4).bind fun t1 => if t1 = true then some true else some false) else some false) (fun k => ?_) ?_
  · unfold laws_eqFunc.f
    simp only [if_true]
  · exact Ev.bind (f := fun k t => if t = true then ((laws_eqBlockS.f k l4 l4).bind fun t1 => if t1 = true then some true else some false) else some false) (laws_eqInt64S_ev _ h2)
      (Ev.bind (f := fun _ t1 => if t1 = true then some true else some false) (eqBlockS_ev _ h4 hs) (Ev.now _))


theorem laws_eqInt64S_evB (l : List Int) (hl : l.length ≤ 8796093022208) : Ev (fun k => laws_eqInt64S.f k l l) true := by
  have := eq_loop (fun k i => laws_eqInt64S.l0 k l l i) l.length (fun k => by simp only [laws_eqInt64S.l0]; rw [if_neg (by omega)])
    (fun i hi h => by
      refine Ev.step (f := fun k => laws_eqInt64S.l0 k l l ((i + 1 : Nat) : Int)) (fun k => ?_) h
      simp only [laws_eqInt64S.l0]
      rw [if_pos (by omega), if_pos (by omega), if_pos (by omega), if_pos trivial, wrap64_next hi (by omega)])
  refine Ev.congr (fun k => ?_) this
  unfold laws_eqInt64S.f
  rw [if_pos rfl]

def laws_markInt64S_s (m : Int) (n : Nat) : List Int := (List.range n).map fun (i : Nat) => (m + (i : Int))
theorem laws_markInt64S_s_at (m : Int) (n i : Nat) (h : i < (laws_markInt64S_s m n).length) : (laws_markInt64S_s m n)[i] = (m + (i : Int)) := by
  simp [laws_markInt64S_s]
theorem laws_markInt64S_s_len (m : Int) (n : Nat) : (laws_markInt64S_s m n).length = n := by simp [laws_markInt64S_s]
theorem laws_markInt64S_ev (l : List Int) (m : Int) (hl : l.length ≤ 8796093022208) (h0 : 0 ≤ m) (h1 : m ≤ 8796093022208) : Ev (fun k => laws_markInt64S.f k l m) (m + l.length, laws_markInt64S_s m l.length) := by
  have main : ∀ (d i : Nat) (ys : List Int), i + d = l.length → ys.length = l.length → (∀ j (h : j < ys.length), j < i → ys[j] = (m + (j : Int))) → Ev (fun k => laws_markInt64S.l0 k ys (m + i) (i : Int)) (m + l.length, laws_markInt64S_s m l.length) := by
    intro d
    induction d with
    | zero =>
      intro i ys hi hy hp
      have e : ys = laws_markInt64S_s m l.length := List.ext_getElem (by rw [hy, laws_markInt64S_s_len]) (fun j h1 h2 => by rw [hp j h1 (by omega), laws_markInt64S_s_at])
      refine Ev.step (f := fun _ => some (m + l.length, laws_markInt64S_s m l.length)) (fun k => ?_) (Ev.now _)
      simp only [laws_markInt64S.l0]
      rw [if_neg (by omega), ← e, show (i : Int) = (l.length : Int) by omega]
    | succ d ih =>
      intro i ys hi hy hp
      refine Ev.step (fun k => ?_) (ih (i + 1) (ys.set i (m + (i : Int))) (by omega) (by simpa using hy) (fun j h hj => ?_))
      · simp only [laws_markInt64S.l0]
        rw [if_pos (by omega), if_pos (by omega), wrap64_next (show i < l.length by omega) (by omega), wrap64_id (x := m + (i : Int) + 1) (by omega) (by omega), show m + (i : Int) + 1 = m + ((i + 1 : Nat) : Int) by omega]
        rfl
      · rw [List.getElem_set]
        by_cases e : i = j
        · subst e
          rw [if_pos rfl]
        · rw [if_neg e]
          exact hp j (by simpa using h) (by omega)
  have := main l.length 0 l (by omega) rfl (fun j _ h => by omega)
  simp only [Int.natCast_zero, Int.add_zero] at this
  exact this
theorem laws_heldInt64S_ev (m : Int) (n : Nat) (hl : n ≤ 8796093022208) (h0 : 0 ≤ m) (h1 : m ≤ 8796093022208) : Ev (fun k => laws_heldInt64S.f k (laws_markInt64S_s m n) m) (m + n) := by
  have main : ∀ (d i : Nat), i + d = n → Ev (fun k => laws_heldInt64S.l0 k (laws_markInt64S_s m n) (m + i) (i : Int)) (m + n) := by
    intro d
    induction d with
    | zero =>
      intro i hi
      refine Ev.step (f := fun _ => some (m + n)) (fun k => ?_) (Ev.now _)
      have hn := laws_markInt64S_s_len m n
      simp only [laws_heldInt64S.l0]
      rw [if_neg (by omega), show (i : Int) = (n : Int) by omega]
    | succ d ih =>
      intro i hi
      refine Ev.step (fun k => ?_) (ih (i + 1) (by omega))
      have hn := laws_markInt64S_s_len m n
      have hlt : i < (laws_markInt64S_s m n).length := by omega
      simp only [laws_heldInt64S.l0]
      rw [if_pos (by omega), if_pos (by omega), rd_at hlt, laws_markInt64S_s_at, if_pos rfl, wrap64_next hlt (by omega), wrap64_id (x := m + (i : Int) + 1) (by omega) (by omega), show m + (i : Int) + 1 = m + ((i + 1 : Nat) : Int) by omega]
  have := main n 0 (by omega)
  simp only [Int.natCast_zero, Int.add_zero] at this
  exact this


/-! the types of the values, one behind the other -/
def tyI : List S103 → List Int
  | [] => []
  | x :: xs => if x.f1 = 0 then tyI xs else x.f1 :: tyI xs
def tyB : List S100 → List Int
  | [] => []
  | b :: bs => tyI b.f0 ++ tyB bs
theorem tyI_le : ∀ l : List S103, (tyI l).length ≤ l.length
  | [] => Nat.le_refl _
  | x :: xs => by
    have := tyI_le xs
    unfold tyI
    split
    · simp only [List.length_cons]; omega
    · simp only [List.length_cons]; omega
theorem tyB_le : ∀ l : List S100, (∀ x ∈ l, smIB x) → (tyB l).length ≤ l.length * 1048576
  | [], _ => by simp [tyB]
  | b :: bs, h => by
    have h1 := tyB_le bs (fun x hx => h x (List.mem_cons_of_mem _ hx))
    have h2 := tyI_le b.f0
    have h3 := (h b List.mem_cons_self).1
    unfold tyB
    rw [List.length_append, List.length_cons, Nat.succ_mul]
    omega
theorem spec_types_ev (s : ByteArray) (a : Int) (l2 : List Int) (b : Int) (bs : List S100) (h2 : l2.length ≤ 1048576) (hl : bs.length ≤ 1048576) (hs : ∀ x ∈ bs, smIB x) :
    Ev (fun k => spec_ValueTypes.f k s a l2 b bs) (l2 ++ tyB bs) := by
  have inner : ∀ (i : Nat) (hi : i < bs.length) (d j : Nat) (out : List Int) (r : List Int), j + d = (bs[i]).f0.length → out.length ≤ 1048576 * (i + 1) + j →
      (∀ out' : List Int, out' = out ++ tyI ((bs[i]).f0.drop j) → out'.length ≤ 1048576 * (i + 2) → Ev (fun k => spec_ValueTypes.l0 k out' ((i + 1 : Nat) : Int) s a l2 b bs) r) →
      Ev (fun k => spec_ValueTypes.l1 k out (i : Int) (j : Int) s a l2 b bs) r := by
    intro i hi d
    have hg := (hs _ (List.getElem_mem hi)).1
    induction d with
    | zero =>
      intro j out r hj ho h
      have e : tyI ((bs[i]).f0.drop j) = [] := by rw [List.drop_eq_nil_of_le (by omega)]; rfl
      refine Ev.step (fun k => ?_) (h out (by rw [e, List.append_nil]) (by omega))
      simp only [spec_ValueTypes.l1]
      rw [if_pos (by omega), if_pos (by omega), rdIB_at hi, if_neg (by omega), wrap64_next hi (by omega)]
    | succ d ih =>
      intro j out r hj ho h
      have hlt : j < (bs[i]).f0.length := by omega
      have e : tyI ((bs[i]).f0.drop j) = if ((bs[i]).f0[j]).f1 = 0 then tyI ((bs[i]).f0.drop (j + 1)) else ((bs[i]).f0[j]).f1 :: tyI ((bs[i]).f0.drop (j + 1)) := by
        rw [List.drop_eq_getElem_cons hlt, tyI]
      by_cases c : ((bs[i]).f0[j]).f1 = 0
      · refine Ev.step (fun k => ?_) (ih (j + 1) out r (by omega) (by omega) (fun out' e' h' => h out' (by rw [e, if_pos c]; exact e') h'))
        simp only [spec_ValueTypes.l1]
        rw [if_pos (by omega), if_pos (by omega), rdIB_at hi, if_pos (by omega), if_pos (by omega), rdII_at hlt, if_pos c, wrap64_next hlt (by omega)]
      · refine Ev.step (fun k => ?_) (ih (j + 1) (out ++ [((bs[i]).f0[j]).f1]) r (by omega) (by simp only [List.length_append, List.length_cons, List.length_nil]; omega) (fun out' e' h' => h out' (by rw [e, if_neg c, e']; simp) h'))
        simp only [spec_ValueTypes.l1]
        rw [if_pos (by omega), if_pos (by omega), rdIB_at hi, if_pos (by omega), if_pos (by omega), rdII_at hlt, if_neg c, if_pos (by omega), wrap64_next hlt (by omega)]
  have outer : ∀ (d i : Nat) (out : List Int), i + d = bs.length → out.length ≤ 1048576 * (i + 1) → Ev (fun k => spec_ValueTypes.l0 k out (i : Int) s a l2 b bs) (out ++ tyB (bs.drop i)) := by
    intro d
    induction d with
    | zero =>
      intro i out hi ho
      refine Ev.step (f := fun _ => some out) (fun k => ?_) ?_
      · simp only [spec_ValueTypes.l0]
        rw [if_neg (by omega)]
      · rw [List.drop_eq_nil_of_le (by omega), tyB, List.append_nil]
        exact Ev.now _
    | succ d ih =>
      intro i out hi ho
      have hlt : i < bs.length := by omega
      refine Ev.step (fun k => ?_) (inner i hlt (bs[i]).f0.length 0 out _ (by omega) (by omega) (fun out' e' h' => ?_))
      · simp only [spec_ValueTypes.l0]
        rw [if_pos (by omega)]
        rfl
      · have := ih (i + 1) out' (by omega) (by omega)
        rw [List.drop_eq_getElem_cons hlt, tyB, ← List.append_assoc]
        rw [List.drop_zero] at e'
        rw [← e']
        exact this
  have := outer bs.length 0 ([] ++ l2) (by omega) (by simp only [List.nil_append]; omega)
  simp only [List.drop_zero] at this
  unfold spec_ValueTypes.f
  simp only [Option.bind_some]
  refine Ev.congr (fun k => if_pos (by simp only [List.length_nil]; omega)) ?_
  simpa using this
theorem impl_types_ev (s : ByteArray) (a : Int) (l2 : List Int) (b : Int) (bs : List S100) (h2 : l2.length ≤ 1048576) (hl : bs.length ≤ 1048576) (hs : ∀ x ∈ bs, smIB x) :
    Ev (fun k => impl_ValueTypes.f k s a l2 b bs) (l2 ++ tyB bs) := by
  have inner : ∀ (i : Nat) (hi : i < bs.length) (d j : Nat) (out : List Int) (r : List Int), j + d = (bs[i]).f0.length → out.length ≤ 1048576 * (i + 1) + j →
      (∀ out' : List Int, out' = out ++ tyI ((bs[i]).f0.drop j) → out'.length ≤ 1048576 * (i + 2) → Ev (fun k => impl_ValueTypes.l0 k out' bs (bs.length : Int) ((i + 1 : Nat) : Int)) r) →
      Ev (fun k => impl_ValueTypes.l1 k out bs (bs.length : Int) (i : Int) (bs[i]).f0 ((bs[i]).f0.length : Int) (j : Int)) r := by
    intro i hi d
    have hg := (hs _ (List.getElem_mem hi)).1
    induction d with
    | zero =>
      intro j out r hj ho h
      have e : tyI ((bs[i]).f0.drop j) = [] := by rw [List.drop_eq_nil_of_le (by omega)]; rfl
      refine Ev.step (fun k => ?_) (h out (by rw [e, List.append_nil]) (by omega))
      simp only [impl_ValueTypes.l1]
      rw [if_neg (by omega), wrap64_next hi (by omega)]
    | succ d ih =>
      intro j out r hj ho h
      have hlt : j < (bs[i]).f0.length := by omega
      have e : tyI ((bs[i]).f0.drop j) = if ((bs[i]).f0[j]).f1 = 0 then tyI ((bs[i]).f0.drop (j + 1)) else ((bs[i]).f0[j]).f1 :: tyI ((bs[i]).f0.drop (j + 1)) := by
        rw [List.drop_eq_getElem_cons hlt, tyI]
      by_cases c : ((bs[i]).f0[j]).f1 = 0
      · refine Ev.step (fun k => ?_) (ih (j + 1) out r (by omega) (by omega) (fun out' e' h' => h out' (by rw [e, if_pos c]; exact e') h'))
        simp only [impl_ValueTypes.l1]
        rw [if_pos (by omega), if_pos (by omega), if_pos (by omega), rdII_at hlt, if_pos c, wrap64_next hlt (by omega)]
      · refine Ev.step (fun k => ?_) (ih (j + 1) (out ++ [((bs[i]).f0[j]).f1]) r (by omega) (by simp only [List.length_append, List.length_cons, List.length_nil]; omega) (fun out' e' h' => h out' (by rw [e, if_neg c, e']; simp) h'))
        simp only [impl_ValueTypes.l1]
        rw [if_pos (by omega), if_pos (by omega), if_pos (by omega), rdII_at hlt, if_neg c, if_pos (by omega), wrap64_next hlt (by omega)]
  have outer : ∀ (d i : Nat) (out : List Int), i + d = bs.length → out.length ≤ 1048576 * (i + 1) → Ev (fun k => impl_ValueTypes.l0 k out bs (bs.length : Int) (i : Int)) (out ++ tyB (bs.drop i)) := by
    intro d
    induction d with
    | zero =>
      intro i out hi ho
      refine Ev.step (f := fun _ => some out) (fun k => ?_) ?_
      · simp only [impl_ValueTypes.l0]
        rw [if_neg (by omega)]
      · rw [List.drop_eq_nil_of_le (by omega), tyB, List.append_nil]
        exact Ev.now _
    | succ d ih =>
      intro i out hi ho
      have hlt : i < bs.length := by omega
      refine Ev.step (fun k => ?_) (inner i hlt (bs[i]).f0.length 0 out _ (by omega) (by omega) (fun out' e' h' => ?_))
      · simp only [impl_ValueTypes.l0]
        rw [if_pos (by omega), if_pos (by omega), if_pos (by omega), rdIB_at hlt]
        rfl
      · have := ih (i + 1) out' (by omega) (by omega)
        rw [List.drop_eq_getElem_cons hlt, tyB, ← List.append_assoc]
        rw [List.drop_zero] at e'
        rw [← e']
        exact this
  have := outer bs.length 0 ([] ++ l2) (by omega) (by simp only [List.nil_append]; omega)
  simp only [List.drop_zero] at this
  unfold impl_ValueTypes.f
  refine Ev.congr (fun k => if_pos (by simp only [List.length_nil]; omega)) ?_
  simpa using this
theorem sum_cap {α : Type} (f : α → Nat) (c : Nat) : ∀ xs : List α, (∀ x ∈ xs, f x ≤ c) → (xs.map f).sum ≤ xs.length * c
  | [], _ => by simp
  | x :: xs, h => by
    have h1 := sum_cap f c xs (fun y hy => h y (List.mem_cons_of_mem _ hy))
    have h2 := h x List.mem_cons_self
    rw [List.map_cons, List.sum_cons, List.length_cons, Nat.succ_mul]
    omega
theorem szB_cap (bs : List S100) (hl : bs.length ≤ 1048576) (hs : ∀ x ∈ bs, smIB x) : szB bs ≤ 6917535624734605312 := by
  have hn : ∀ x ∈ bs, szN x.f0 ≤ 1048576 * 6291462 := by
    intro x hx
    obtain ⟨g, hg⟩ := hs x hx
    have h1 := sum_cap szI 6291462 x.f0 (fun y hy => by
      obtain ⟨a, b, c⟩ := hg y hy
      unfold szI
      omega)
    unfold szN
    exact Nat.le_trans h1 (Nat.mul_le_mul_right _ g)
  have h2 := sum_cap (fun x : S100 => szN x.f0) (1048576 * 6291462) bs hn
  have h3 : bs.length * (1048576 * 6291462) ≤ 1048576 * (1048576 * 6291462) := Nat.mul_le_mul_right _ hl
  unfold szB
  omega
theorem FnExactValueTypes : laws_FnExactValueTypes.Pure := by
  intro s a l2 b l4 hs _ h2 _ h4
  obtain ⟨r, hsz, hsm⟩ := szFunc_ev s a l2 b l4 (by have := hs; simp only [maxLen] at this; omega) (by have := h2.1; simp only [maxLen] at this; omega) (by have := h4.1; simp only [maxLen] at this; omega) h4.2
  refine Ev.rounds (Ev.bind hsz ?_)
  by_cases hr : r < 0
  · simp only [if_pos hr]
    exact Ev.now _
  simp only [if_neg hr]
  obtain ⟨g2, g4, gs⟩ := hsm (by omega)
  have tf := toFunc_ev s a l2 b l4 g2 g4 gs
  have hl : (l4.map cBl).length ≤ 1048576 := by simpa using g4
  have hsb : ∀ z ∈ l4.map cBl, smIB z := by
    intro z hz
    obtain ⟨w, hw, rfl⟩ := List.mem_map.1 hz
    exact smIB_of (gs w hw)
  have ev1 := spec_types_ev s a l2 b (l4.map cBl) g2 hl hsb
  have ev2 := impl_types_ev s a l2 b (l4.map cBl) g2 hl hsb
  have hle : (l2 ++ tyB (l4.map cBl)).length ≤ 8796093022208 := by
    have h1 := tyB_le _ hsb
    have h2 : (l4.map cBl).length * 1048576 ≤ 1048576 * 1048576 := Nat.mul_le_mul_right _ hl
    rw [List.length_append]
    omega
  have eqf := eqFunc_ev s a l2 b (l4.map cBl) g2 hl hsb
  have hmark : ∀ k, laws_markFunc.f k s a l2 b (l4.map cBl) 1 = some (1 + (l2.length : Int) + (szB (l4.map cBl) : Nat)) := by
    intro k
    have := szB_cap _ hl hsb
    unfold laws_markFunc.f
    rw [if_pos ⟨by omega, by omega⟩]
  generalize l2 ++ tyB (l4.map cBl) = out at ev1 ev2 hle
  have eqo := laws_eqInt64S_evB out hle
  have mko := laws_markInt64S_ev out 1 hle (by omega) (by omega)
  have hdo := laws_heldInt64S_ev 1 out.length hle (by omega) (by omega)
  have j0 : Ev (fun k => laws_FnExactValueTypes.j0 k out out false s a l2 b l4) true := by
    refine Ev.step (fun k => by simp only [laws_FnExactValueTypes.j0, Bool.false_eq_true, if_false]; rfl) (Ev.bind mko ?_)
    dsimp only
    refine Ev.bind hdo ?_
    simp only [if_neg (show ¬ ((1 : Int) + (out.length : Int) < 0) by omega), if_true]
    refine Ev.bind tf ?_
    dsimp only
    refine Ev.bind ev2 (Ev.bind eqo ?_)
    simp only [if_true]
    refine Ev.bind hdo ?_
    simp only [if_neg (show ¬ ((1 : Int) + (out.length : Int) < 0) by omega), if_true]
    exact Ev.now true
  refine Ev.bind tf ?_
  dsimp only
  refine Ev.bind ev1 (Ev.bind tf ?_)
  dsimp only
  refine Ev.bind ev2 (Ev.bind eqo ?_)
  simp only [if_true]
  refine Ev.bind tf ?_
  dsimp only
  refine Ev.bind eqf ?_
  simp only [if_true, hmark, Option.bind_some]
  simp only [if_neg (show ¬ ((1 : Int) + (l2.length : Int) + ((szB (l4.map cBl) : Nat) : Int) < 0) by omega)]
  refine Ev.bind eqo ?_
  simp only [Bool.not_true]
  exact j0

end Go.Proofs.Ythfhenhlfedfmaa.Pure
