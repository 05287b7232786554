/- At every function, block and place the program's ResultOf tells what the reference's tells, where the argument is of at most 1048576 parts; larger ones are not asked. -/
import Derived.Test.YtnogjankhacdpaaOpenFnExactResultOf
import Derived.Test.YtnogjankhacdpaaPlGen
namespace Go.Proofs.Ytnogjankhacdpaa.Pure
open Go.RowKit Go.Proofs.Ytnogjankhacdpaa.QFnExactResultOf Go.Proofs.Ytnogjankhacdpaa.OpenFnExactResultOf Go.Proofs.YtnogjankhacdpaaW.PrintWords Go.Proofs.YtnogjankhacdpaaW.PrintLast Go.Proofs.YtnogjankhacdpaaW.PrintMore Go.Proofs.Ytnogjankhacdpaa.RowOpen Go.Proofs.Ytnogjankhacdpaa.PlGen
set_option linter.unusedSimpArgs false
set_option linter.unusedVariables false
set_option maxHeartbeats 4000000

/-! the structs of a function: measured, copied, compared -/
def cOp (x : S118) : S116 := ⟨x.f0, x.f1, x.f2, x.f3⟩
def cIn (x : S106) : S58 := ⟨x.f0, x.f1, x.f2, x.f3, x.f4, x.f5, x.f6.map cOp, x.f7, x.f8⟩
def cBl (x : S87) : S61 := ⟨x.f0.map cIn⟩
def smIn (x : S106) : Prop := x.f6.length ≤ 1048576 ∧ x.f7.length ≤ 1048576 ∧ x.f8.length ≤ 1048576
def smBl (x : S87) : Prop := x.f0.length ≤ 1048576 ∧ ∀ y ∈ x.f0, smIn y
theorem rdLI_at {xs : List S106} {i : Nat} (h : i < xs.length) : rd_T106 xs (i : Int) = xs[i] := getD_at h _
theorem rdLB_at {xs : List S87} {i : Nat} (h : i < xs.length) : rd_T87 xs (i : Int) = xs[i] := getD_at h _
theorem rdLO_at {xs : List S118} {i : Nat} (h : i < xs.length) : rd_T118 xs (i : Int) = xs[i] := getD_at h _
theorem rdII_at {xs : List S58} {i : Nat} (h : i < xs.length) : rd_T58 xs (i : Int) = xs[i] := getD_at h _
theorem rdIB_at {xs : List S61} {i : Nat} (h : i < xs.length) : rd_T61 xs (i : Int) = xs[i] := getD_at h _
theorem rdIO_at {xs : List S116} {i : Nat} (h : i < xs.length) : rd_T116 xs (i : Int) = xs[i] := getD_at h _

theorem laws_szInt64S_at (l : List Int) (left : Int) (hl : l.length ≤ 9223372036854775807) (h0 : 0 ≤ left) (h1 : left ≤ 1048576) : laws_szInt64S.f l left = some (if left - (l.length : Int) < 0 then -1 else left - l.length) := by
  unfold laws_szInt64S.f
  rw [wrap64_id (by omega) (by omega)]
  split <;> rfl
theorem laws_szUint64S_at (l : List Int) (left : Int) (hl : l.length ≤ 9223372036854775807) (h0 : 0 ≤ left) (h1 : left ≤ 1048576) : laws_szUint64S.f l left = some (if left - (l.length : Int) < 0 then -1 else left - l.length) := by
  unfold laws_szUint64S.f
  rw [wrap64_id (by omega) (by omega)]
  split <;> rfl
theorem laws_szOperandS_at (l : List S118) (left : Int) (hl : l.length ≤ 9223372036854775807) (h0 : 0 ≤ left) (h1 : left ≤ 1048576) : laws_szOperandS.f l left = some (if left - (l.length : Int) < 0 then -1 else left - l.length) := by
  unfold laws_szOperandS.f
  rw [wrap64_id (by omega) (by omega)]
  split <;> rfl

theorem szInstr_at (x : S106) (left : Int) (hq : q106 x) (h0 : 0 ≤ left) (h1 : left ≤ 1048576) :
    ∃ r, laws_szInstr.f x.f0 x.f1 x.f2 x.f3 x.f4 x.f5 x.f6 x.f7 x.f8 left = some r ∧ r ≤ left ∧ -1 ≤ r ∧ (0 ≤ r → smIn x) := by
  obtain ⟨_, _, _, _, _, _, ⟨g6, _⟩, ⟨g7, _⟩, ⟨g8, _⟩⟩ := hq
  simp only [maxLen] at g6 g7 g8
  unfold laws_szInstr.f
  rw [laws_szOperandS_at _ _ g6 h0 h1]
  simp only [Option.bind_some]
  by_cases c1 : left - (x.f6.length : Int) < 0
  · rw [if_pos c1, if_pos (by omega)]
    exact ⟨-1, rfl, by omega, by omega, fun h => by omega⟩
  rw [if_neg c1, if_neg c1, laws_szInt64S_at _ _ g7 (by omega) (by omega)]
  simp only [Option.bind_some]
  by_cases c2 : left - (x.f6.length : Int) - (x.f7.length : Int) < 0
  · rw [if_pos c2, if_pos (by omega)]
    exact ⟨-1, rfl, by omega, by omega, fun h => by omega⟩
  rw [if_neg c2, if_neg c2, laws_szUint64S_at _ _ g8 (by omega) (by omega)]
  simp only [Option.bind_some]
  by_cases c3 : left - (x.f6.length : Int) - (x.f7.length : Int) - (x.f8.length : Int) < 0
  · rw [if_pos c3, if_pos (by omega)]
    exact ⟨-1, rfl, by omega, by omega, fun h => by omega⟩
  rw [if_neg c3, if_neg c3]
  exact ⟨_, rfl, by omega, by omega, fun _ => ⟨by omega, by omega, by omega⟩⟩
theorem szInstrS_ev (l : List S106) (left : Int) (hl : l.length ≤ 9223372036854775807) (hq : ∀ x ∈ l, q106 x) (h0 : 0 ≤ left) (h1 : left ≤ 1048576) :
    ∃ r, Ev (fun k => laws_szInstrS.f k l left) r ∧ r ≤ left ∧ -1 ≤ r ∧ (0 ≤ r → l.length ≤ 1048576 ∧ ∀ x ∈ l, smIn x) := by
  by_cases c : left - (l.length : Int) < 0
  · refine ⟨-1, Ev.congr (f := fun _ => some (-1)) (fun k => ?_) (Ev.now _), by omega, by omega, fun h => by omega⟩
    unfold laws_szInstrS.f
    rw [wrap64_id (by omega) (by omega), if_pos c]
  · obtain ⟨r, hr, hr1, hev, hall⟩ := sz_loop (fun k left i => laws_szInstrS.l0 k l left i) l smIn (fun k left => by simp only [laws_szInstrS.l0]; rw [if_neg (by omega)])
      (fun i hi lf b0 b1 => by
        obtain ⟨r, he, hr, hr1, hs⟩ := szInstr_at l[i] lf (hq _ (List.getElem_mem hi)) b0 b1
        have step : ∀ k, laws_szInstrS.l0 (k + 1) l lf (i : Int) = if r < 0 then some (-1) else laws_szInstrS.l0 k l r ((i + 1 : Nat) : Int) := by
          intro k
          simp only [laws_szInstrS.l0]
          rw [if_pos (by omega), if_pos (by omega), rdLI_at hi, he, wrap64_next hi hl]
          rfl
        refine ⟨r, hr, fun hn => Ev.step (f := fun _ => some (-1)) (fun k => by rw [step k, if_pos hn]) (Ev.now _), fun hp => ⟨hs hp, fun q hq => Ev.step (fun k => by rw [step k, if_neg (by omega)]) hq⟩⟩)
      (left - l.length) (by omega) (by omega)
    refine ⟨r, Ev.congr (fun k => ?_) hev, by omega, hr1, fun h => ⟨by omega, hall h⟩⟩
    unfold laws_szInstrS.f
    rw [wrap64_id (by omega) (by omega), if_neg c]
theorem szBlock_ev (x : S87) (left : Int) (hq : q87 x) (h0 : 0 ≤ left) (h1 : left ≤ 1048576) : ∃ r, Ev (fun k => laws_szBlock.f k x.f0 left) r ∧ r ≤ left ∧ -1 ≤ r ∧ (0 ≤ r → smBl x) := by
  obtain ⟨g, hg⟩ := hq
  simp only [maxLen] at g
  obtain ⟨r, hev, hr, hr1, hs⟩ := szInstrS_ev x.f0 left g hg h0 h1
  refine ⟨r, ?_, hr, hr1, hs⟩
  refine Ev.bind (f := fun _ t => if t < 0 then some (-1) else some t) hev (Ev.congr (f := fun _ => some r) (fun k => ?_) (Ev.now r))
  by_cases c : r < 0
  · rw [if_pos c, show r = -1 by omega]
  · rw [if_neg c]
theorem szBlockS_ev (l : List S87) (left : Int) (hl : l.length ≤ 9223372036854775807) (hq : ∀ x ∈ l, q87 x) (h0 : 0 ≤ left) (h1 : left ≤ 1048576) :
    ∃ r, Ev (fun k => laws_szBlockS.f k l left) r ∧ r ≤ left ∧ -1 ≤ r ∧ (0 ≤ r → l.length ≤ 1048576 ∧ ∀ x ∈ l, smBl x) := by
  by_cases c : left - (l.length : Int) < 0
  · refine ⟨-1, Ev.congr (f := fun _ => some (-1)) (fun k => ?_) (Ev.now _), by omega, by omega, fun h => by omega⟩
    unfold laws_szBlockS.f
    rw [wrap64_id (by omega) (by omega), if_pos c]
  · obtain ⟨r, hr, hr1, hev, hall⟩ := sz_loop (fun k left i => laws_szBlockS.l0 k l left i) l smBl (fun k left => by simp only [laws_szBlockS.l0]; rw [if_neg (by omega)])
      (fun i hi lf b0 b1 => by
        obtain ⟨r, he, hr, hr1, hs⟩ := szBlock_ev l[i] lf (hq _ (List.getElem_mem hi)) b0 b1
        have step : ∀ k, laws_szBlockS.l0 (k + 1) l lf (i : Int) = (laws_szBlock.f k (l[i]).f0 lf).bind fun t => if t < 0 then some (-1) else laws_szBlockS.l0 k l t ((i + 1 : Nat) : Int) := by
          intro k
          simp only [laws_szBlockS.l0]
          rw [if_pos (by omega), if_pos (by omega), rdLB_at hi, wrap64_next hi hl]
        refine ⟨r, hr, fun hn => Ev.step step (Ev.bind (f := fun k t => if t < 0 then some (-1) else laws_szBlockS.l0 k l t ((i + 1 : Nat) : Int)) he (Ev.congr (f := fun _ => some (-1)) (fun k => if_pos hn) (Ev.now _))),
          fun hp => ⟨hs hp, fun q hq => Ev.step step (Ev.bind (f := fun k t => if t < 0 then some (-1) else laws_szBlockS.l0 k l t ((i + 1 : Nat) : Int)) he (Ev.congr (fun k => if_neg (by omega)) hq))⟩⟩)
      (left - l.length) (by omega) (by omega)
    refine ⟨r, Ev.congr (fun k => ?_) hev, by omega, hr1, fun h => ⟨by omega, hall h⟩⟩
    unfold laws_szBlockS.f
    rw [wrap64_id (by omega) (by omega), if_neg c]
theorem szFunc_ev (s : ByteArray) (a : Int) (l2 : List Int) (b : Int) (l4 : List S87) (hs : s.size ≤ 9223372036854775807) (h2 : l2.length ≤ 9223372036854775807) (h4 : l4.length ≤ 9223372036854775807) (hq : ∀ x ∈ l4, q87 x) :
    ∃ r, Ev (fun k => laws_szFunc.f k s a l2 b l4 1048576) r ∧ (0 ≤ r → l2.length ≤ 1048576 ∧ l4.length ≤ 1048576 ∧ ∀ x ∈ l4, smBl x) := by
  by_cases c1 : (1048576 : Int) - (s.size : Int) < 0
  · refine ⟨-1, Ev.congr (f := fun _ => some (-1)) (fun k => ?_) (Ev.now _), fun h => by omega⟩
    unfold laws_szFunc.f
    rw [wrap64_id (by omega) (by omega), if_pos c1]
  by_cases c2 : (1048576 : Int) - (s.size : Int) - (l2.length : Int) < 0
  · refine ⟨-1, Ev.congr (f := fun _ => some (-1)) (fun k => ?_) (Ev.now _), fun h => by omega⟩
    unfold laws_szFunc.f
    rw [wrap64_id (by omega) (by omega), if_neg c1, laws_szInt64S_at _ _ h2 (by omega) (by omega), if_pos c2]
    rfl
  obtain ⟨r, hev, hr, hr1, hsm⟩ := szBlockS_ev l4 (1048576 - (s.size : Int) - (l2.length : Int)) h4 hq (by omega) (by omega)
  refine ⟨r, Ev.congr (f := fun k => (laws_szBlockS.f k l4 (1048576 - (s.size : Int) - (l2.length : Int))).bind fun t => if t < 0 then some (-1) else some t) (fun k => ?_) ?_, fun h => ⟨by omega, hsm h⟩⟩
  · unfold laws_szFunc.f
    rw [wrap64_id (by omega) (by omega), if_neg c1, laws_szInt64S_at _ _ h2 (by omega) (by omega), if_neg c2]
    simp only [Option.bind_some]
    rw [if_neg c2]
  · refine Ev.bind (f := fun _ t => if t < 0 then some (-1) else some t) hev (Ev.congr (f := fun _ => some r) (fun k => ?_) (Ev.now r))
    by_cases c : r < 0
    · rw [if_pos c, show r = -1 by omega]
    · rw [if_neg c]

theorem laws_toInt64S_ev (l : List Int) (hl : l.length ≤ 1048576) : Ev (fun k => laws_toInt64S.f k l) l := by
  have := copy_loop (fun k ys i => laws_toInt64S.l0 k l ys i) l (fun x => x) (fun k ys => by simp only [laws_toInt64S.l0]; rw [if_neg (by omega)])
    (fun i hi ys hy r h => by
      refine Ev.step (f := fun k => laws_toInt64S.l0 k l (ys.set i l[i]) ((i + 1 : Nat) : Int)) (fun k => ?_) h
      simp only [laws_toInt64S.l0]
      rw [if_pos (by omega), if_pos (by omega), if_pos (by omega), rd_at hi, wrap64_next hi (by omega)]
      rfl) (List.replicate ((l.length : Int)).toNat 0) (by simp)
  rw [List.map_id'] at this
  refine Ev.congr (fun k => ?_) this
  unfold laws_toInt64S.f
  rw [if_pos (by omega), if_pos (by omega)]
theorem laws_toUint64S_ev (l : List Int) (hl : l.length ≤ 1048576) : Ev (fun k => laws_toUint64S.f k l) l := by
  have := copy_loop (fun k ys i => laws_toUint64S.l0 k l ys i) l (fun x => x) (fun k ys => by simp only [laws_toUint64S.l0]; rw [if_neg (by omega)])
    (fun i hi ys hy r h => by
      refine Ev.step (f := fun k => laws_toUint64S.l0 k l (ys.set i l[i]) ((i + 1 : Nat) : Int)) (fun k => ?_) h
      simp only [laws_toUint64S.l0]
      rw [if_pos (by omega), if_pos (by omega), if_pos (by omega), rd_at hi, wrap64_next hi (by omega)]
      rfl) (List.replicate ((l.length : Int)).toNat 0) (by simp)
  rw [List.map_id'] at this
  refine Ev.congr (fun k => ?_) this
  unfold laws_toUint64S.f
  rw [if_pos (by omega), if_pos (by omega)]

theorem toOperandS_ev (l : List S118) (hl : l.length ≤ 1048576) : Ev (fun k => laws_toOperandS.f k l) (l.map cOp) := by
  have := copy_loop (fun k ys i => laws_toOperandS.l0 k l ys i) l cOp (fun k ys => by simp only [laws_toOperandS.l0]; rw [if_neg (by omega)])
    (fun i hi ys hy r h => by
      refine Ev.step (f := fun k => laws_toOperandS.l0 k l (ys.set i (cOp l[i])) ((i + 1 : Nat) : Int)) (fun k => ?_) h
      simp only [laws_toOperandS.l0]
      rw [if_pos (by omega), if_pos (by omega), rdLO_at hi, wrap64_next hi (by omega)]
      unfold laws_toOperand.f
      simp only [Option.bind_some]
      rw [if_pos (by omega)]
      rfl) (List.replicate ((l.length : Int)).toNat z116) (by simp)
  refine Ev.congr (fun k => ?_) this
  unfold laws_toOperandS.f
  rw [if_pos (by omega), if_pos (by omega)]
theorem toInstr_ev (x : S106) (h : smIn x) : Ev (fun k => laws_toInstr.f k x.f0 x.f1 x.f2 x.f3 x.f4 x.f5 x.f6 x.f7 x.f8) (x.f0, x.f1, x.f2, x.f3, x.f4, x.f5, x.f6.map cOp, x.f7, x.f8) := by
  obtain ⟨g6, g7, g8⟩ := h
  exact Ev.bind (f := fun k t => (laws_toInt64S.f k x.f7).bind fun t1 => (laws_toUint64S.f k x.f8).bind fun t2 => some (x.f0, x.f1, x.f2, x.f3, x.f4, x.f5, t, t1, t2)) (toOperandS_ev x.f6 g6)
    (Ev.bind (f := fun k t1 => (laws_toUint64S.f k x.f8).bind fun t2 => some (x.f0, x.f1, x.f2, x.f3, x.f4, x.f5, x.f6.map cOp, t1, t2)) (laws_toInt64S_ev x.f7 g7)
      (Ev.bind (f := fun _ t2 => some (x.f0, x.f1, x.f2, x.f3, x.f4, x.f5, x.f6.map cOp, x.f7, t2)) (laws_toUint64S_ev x.f8 g8) (Ev.now _)))
theorem toInstrS_ev (l : List S106) (hl : l.length ≤ 1048576) (hs : ∀ x ∈ l, smIn x) : Ev (fun k => laws_toInstrS.f k l) (l.map cIn) := by
  have := copy_loop (fun k ys i => laws_toInstrS.l0 k l ys i) l cIn (fun k ys => by simp only [laws_toInstrS.l0]; rw [if_neg (by omega)])
    (fun i hi ys hy r h => by
      refine Ev.step (f := fun k => (laws_toInstr.f k (l[i]).f0 (l[i]).f1 (l[i]).f2 (l[i]).f3 (l[i]).f4 (l[i]).f5 (l[i]).f6 (l[i]).f7 (l[i]).f8).bind fun t => laws_toInstrS.l0 k l (ys.set i ⟨t.1, t.2.1, t.2.2.1, t.2.2.2.1, t.2.2.2.2.1, t.2.2.2.2.2.1, t.2.2.2.2.2.2.1, t.2.2.2.2.2.2.2.1, t.2.2.2.2.2.2.2.2⟩) ((i + 1 : Nat) : Int)) (fun k => ?_) ?_
      · simp only [laws_toInstrS.l0]
        rw [if_pos (by omega), if_pos (by omega), rdLI_at hi, wrap64_next hi (by omega)]
        simp only [if_pos (show (i : Int) < (ys.length : Int) by omega)]
        rfl
      · exact Ev.bind (f := fun k t => laws_toInstrS.l0 k l (ys.set i ⟨t.1, t.2.1, t.2.2.1, t.2.2.2.1, t.2.2.2.2.1, t.2.2.2.2.2.1, t.2.2.2.2.2.2.1, t.2.2.2.2.2.2.2.1, t.2.2.2.2.2.2.2.2⟩) ((i + 1 : Nat) : Int)) (toInstr_ev l[i] (hs _ (List.getElem_mem hi))) h) (List.replicate ((l.length : Int)).toNat z58) (by simp)
  refine Ev.congr (fun k => ?_) this
  unfold laws_toInstrS.f
  rw [if_pos (by omega), if_pos (by omega)]
theorem toBlockS_ev (l : List S87) (hl : l.length ≤ 1048576) (hs : ∀ x ∈ l, smBl x) : Ev (fun k => laws_toBlockS.f k l) (l.map cBl) := by
  have := copy_loop (fun k ys i => laws_toBlockS.l0 k l ys i) l cBl (fun k ys => by simp only [laws_toBlockS.l0]; rw [if_neg (by omega)])
    (fun i hi ys hy r h => by
      refine Ev.step (f := fun k => (laws_toBlock.f k (l[i]).f0).bind fun t => laws_toBlockS.l0 k l (ys.set i ⟨t⟩) ((i + 1 : Nat) : Int)) (fun k => ?_) ?_
      · simp only [laws_toBlockS.l0]
        rw [if_pos (by omega), if_pos (by omega), rdLB_at hi, wrap64_next hi (by omega)]
        simp only [if_pos (show (i : Int) < (ys.length : Int) by omega)]
        rfl
      · obtain ⟨g, hg⟩ := hs _ (List.getElem_mem hi)
        exact Ev.bind (f := fun k t => laws_toBlockS.l0 k l (ys.set i ⟨t⟩) ((i + 1 : Nat) : Int)) (Ev.bind (f := fun _ t => some t) (toInstrS_ev (l[i]).f0 g hg) (Ev.now _)) h) (List.replicate ((l.length : Int)).toNat z61) (by simp)
  refine Ev.congr (fun k => ?_) this
  unfold laws_toBlockS.f
  rw [if_pos (by omega), if_pos (by omega)]
theorem toFunc_ev (s : ByteArray) (a : Int) (l2 : List Int) (b : Int) (l4 : List S87) (h2 : l2.length ≤ 1048576) (h4 : l4.length ≤ 1048576) (hs : ∀ x ∈ l4, smBl x) :
    Ev (fun k => laws_toFunc.f k s a l2 b l4) (s, a, l2, b, l4.map cBl) :=
  Ev.bind (f := fun k t => (laws_toBlockS.f k l4).bind fun t1 => some (s, a, t, b, t1)) (laws_toInt64S_ev l2 h2) (Ev.bind (f := fun _ t1 => some (s, a, l2, b, t1)) (toBlockS_ev l4 h4 hs) (Ev.now _))

theorem laws_eqInt64S_ev (l : List Int) (hl : l.length ≤ 1048576) : Ev (fun k => laws_eqInt64S.f k l l) true := by
  have := eq_loop (fun k i => laws_eqInt64S.l0 k l l i) l.length (fun k => by simp only [laws_eqInt64S.l0]; rw [if_neg (by omega)])
    (fun i hi h => by
      refine Ev.step (f := fun k => laws_eqInt64S.l0 k l l ((i + 1 : Nat) : Int)) (fun k => ?_) h
      simp only [laws_eqInt64S.l0]
      rw [if_pos (by omega), if_pos (by omega), if_pos (by omega), if_pos trivial, wrap64_next hi (by omega)])
  refine Ev.congr (fun k => ?_) this
  unfold laws_eqInt64S.f
  rw [if_pos rfl]
theorem laws_eqUint64S_ev (l : List Int) (hl : l.length ≤ 1048576) : Ev (fun k => laws_eqUint64S.f k l l) true := by
  have := eq_loop (fun k i => laws_eqUint64S.l0 k l l i) l.length (fun k => by simp only [laws_eqUint64S.l0]; rw [if_neg (by omega)])
    (fun i hi h => by
      refine Ev.step (f := fun k => laws_eqUint64S.l0 k l l ((i + 1 : Nat) : Int)) (fun k => ?_) h
      simp only [laws_eqUint64S.l0]
      rw [if_pos (by omega), if_pos (by omega), if_pos (by omega), if_pos trivial, wrap64_next hi (by omega)])
  refine Ev.congr (fun k => ?_) this
  unfold laws_eqUint64S.f
  rw [if_pos rfl]

theorem eqOperandS_ev (l : List S116) (hl : l.length ≤ 1048576) : Ev (fun k => laws_eqOperandS.f k l l) true := by
  have := eq_loop (fun k i => laws_eqOperandS.l0 k l l i) l.length (fun k => by simp only [laws_eqOperandS.l0]; rw [if_neg (by omega)])
    (fun i hi h => by
      refine Ev.step (f := fun k => laws_eqOperandS.l0 k l l ((i + 1 : Nat) : Int)) (fun k => ?_) h
      simp only [laws_eqOperandS.l0]
      rw [if_pos (by omega), if_pos (by omega), if_pos (by omega), wrap64_next hi (by omega)]
      unfold laws_eqOperand.f
      simp only [if_true, Option.bind_some])
  refine Ev.congr (fun k => ?_) this
  unfold laws_eqOperandS.f
  rw [if_pos rfl]
def smII (x : S58) : Prop := x.f6.length ≤ 1048576 ∧ x.f7.length ≤ 1048576 ∧ x.f8.length ≤ 1048576
def smIB (x : S61) : Prop := x.f0.length ≤ 1048576 ∧ ∀ y ∈ x.f0, smII y
theorem smII_of {x : S106} (h : smIn x) : smII (cIn x) := ⟨by simpa [cIn] using h.1, h.2.1, h.2.2⟩
theorem smIB_of {x : S87} (h : smBl x) : smIB (cBl x) := ⟨by simpa [cBl] using h.1, fun y hy => by
  simp only [cBl, List.mem_map] at hy
  obtain ⟨z, hz, rfl⟩ := hy
  exact smII_of (h.2 z hz)⟩
theorem eqInstr_ev (x : S58) (h : smII x) : Ev (fun k => laws_eqInstr.f k x.f0 x.f1 x.f2 x.f3 x.f4 x.f5 x.f6 x.f7 x.f8 x.f0 x.f1 x.f2 x.f3 x.f4 x.f5 x.f6 x.f7 x.f8) true := by
  obtain ⟨g6, g7, g8⟩ := h
  refine Ev.congr (f := fun k => (laws_eqOperandS.f k x.f6 x.f6).bind fun t => if t = true then ((laws_eqInt64S.f k x.f7 x.f7).bind fun t1 => if t1 = true then ((laws_eqUint64S.f k x.f8 x.f8).bind fun t2 => if t2 = true then some true else some false) else some false) else some false) (fun k => ?_) ?_
  · unfold laws_eqInstr.f
    simp only [if_true]
  · exact Ev.bind (f := fun k t => if t = true then ((laws_eqInt64S.f k x.f7 x.f7).bind fun t1 => if t1 = true then ((laws_eqUint64S.f k x.f8 x.f8).bind fun t2 => if t2 = true then some true else some false) else some false) else some false) (eqOperandS_ev _ g6)
      (Ev.bind (f := fun k t1 => if t1 = true then ((laws_eqUint64S.f k x.f8 x.f8).bind fun t2 => if t2 = true then some true else some false) else some false) (laws_eqInt64S_ev _ g7)
        (Ev.bind (f := fun _ t2 => if t2 = true then some true else some false) (laws_eqUint64S_ev _ g8) (Ev.now _)))
theorem eqInstrS_ev (l : List S58) (hl : l.length ≤ 1048576) (hs : ∀ x ∈ l, smII x) : Ev (fun k => laws_eqInstrS.f k l l) true := by
  have := eq_loop (fun k i => laws_eqInstrS.l0 k l l i) l.length (fun k => by simp only [laws_eqInstrS.l0]; rw [if_neg (by omega)])
    (fun i hi h => by
      have e := eqInstr_ev l[i] (hs _ (List.getElem_mem hi))
      refine Ev.step (fun k => ?_) (Ev.bind (f := fun k t => if t = true then laws_eqInstrS.l0 k l l ((i + 1 : Nat) : Int) else some false) e h)
      simp only [laws_eqInstrS.l0]
      rw [if_pos (by omega), if_pos (by omega), if_pos (by omega), wrap64_next hi (by omega), rdII_at hi])
  refine Ev.congr (fun k => ?_) this
  unfold laws_eqInstrS.f
  rw [if_pos rfl]
theorem eqBlockS_ev (l : List S61) (hl : l.length ≤ 1048576) (hs : ∀ x ∈ l, smIB x) : Ev (fun k => laws_eqBlockS.f k l l) true := by
  have := eq_loop (fun k i => laws_eqBlockS.l0 k l l i) l.length (fun k => by simp only [laws_eqBlockS.l0]; rw [if_neg (by omega)])
    (fun i hi h => by
      obtain ⟨g, hg⟩ := hs _ (List.getElem_mem hi)
      have e : Ev (fun k => laws_eqBlock.f k (l[i]).f0 (l[i]).f0) true := Ev.bind (f := fun _ t => if t = true then some true else some false) (eqInstrS_ev _ g hg) (Ev.now _)
      refine Ev.step (fun k => ?_) (Ev.bind (f := fun k t => if t = true then laws_eqBlockS.l0 k l l ((i + 1 : Nat) : Int) else some false) e h)
      simp only [laws_eqBlockS.l0]
      rw [if_pos (by omega), if_pos (by omega), if_pos (by omega), wrap64_next hi (by omega), rdIB_at hi])
  refine Ev.congr (fun k => ?_) this
  unfold laws_eqBlockS.f
  rw [if_pos rfl]
theorem eqFunc_ev (s : ByteArray) (a : Int) (l2 : List Int) (b : Int) (l4 : List S61) (h2 : l2.length ≤ 1048576) (h4 : l4.length ≤ 1048576) (hs : ∀ x ∈ l4, smIB x) :
    Ev (fun k => laws_eqFunc.f k s a l2 b l4 s a l2 b l4) true := by
  refine Ev.congr (f := fun k => (laws_eqInt64S.f k l2 l2).bind fun t => if t = true then ((laws_eqBlockS.f k l4 l4).bind fun t1 => if t1 = true then some true else some false) else some false) (fun k => ?_) ?_
  · unfold laws_eqFunc.f
    simp only [if_true]
  · exact Ev.bind (f := fun k t => if t = true then ((laws_eqBlockS.f k l4 l4).bind fun t1 => if t1 = true then some true else some false) else some false) (laws_eqInt64S_ev _ h2)
      (Ev.bind (f := fun _ t1 => if t1 = true then some true else some false) (eqBlockS_ev _ h4 hs) (Ev.now _))



/-! where values are defined: the places of a function -/
def isV (x : S58) : Bool := x.f1 != 0
def cnt (l : List S58) : Nat := (l.filter isV).length
def cntB (bs : List S61) : Nat := (bs.map fun b => cnt b.f0).sum
/-- The places of one block's instructions from number j on. -/
def rowP (i : Nat) : Nat → List S58 → List S67
  | _, [] => []
  | j, x :: xs => if isV x = true then ⟨(i : Int), (j : Int)⟩ :: rowP i (j + 1) xs else rowP i (j + 1) xs
def allP : Nat → List S61 → List S67
  | _, [] => []
  | i, b :: bs => rowP i 0 b.f0 ++ allP (i + 1) bs
theorem rowP_len (i : Nat) (l : List S58) : ∀ j, (rowP i j l).length = cnt l := by
  induction l with
  | nil => intro j; rfl
  | cons x xs ih =>
    intro j
    unfold rowP cnt
    by_cases h : isV x = true
    · simp [h, ih, cnt]
    · simp [h, ih, cnt]
theorem allP_len (bs : List S61) : ∀ i, (allP i bs).length = cntB bs := by
  induction bs with
  | nil => intro i; rfl
  | cons b bs ih =>
    intro i
    simp [allP, cntB, rowP_len, ih]
theorem cnt_le (l : List S58) : cnt l ≤ l.length := List.length_filter_le _ _
theorem cntB_le (bs : List S61) (h : ∀ b ∈ bs, smIB b) : cntB bs ≤ bs.length * 1048576 := by
  induction bs with
  | nil => simp [cntB]
  | cons b bs ih =>
    have h1 := ih (fun x hx => h x (List.mem_cons_of_mem _ hx))
    have h2 := (h b List.mem_cons_self).1
    have h3 := cnt_le b.f0
    have h4 : cntB (b :: bs) = cnt b.f0 + cntB bs := by simp [cntB]
    rw [h4, List.length_cons, Nat.succ_mul]
    omega
theorem cntB_take_le (bs : List S61) (i : Nat) : cntB (bs.take i) ≤ cntB bs := by
  induction bs generalizing i with
  | nil => simp [cntB]
  | cons b bs ih =>
    cases i with
    | zero => simp [cntB]
    | succ i =>
      have := ih i
      simp only [cntB, List.take_succ_cons, List.map_cons, List.sum_cons] at *
      omega
theorem cntB_at (bs : List S61) (i : Nat) (h : i < bs.length) : cntB (bs.take (i + 1)) = cntB (bs.take i) + cnt (bs[i]).f0 := by
  unfold cntB
  rw [List.take_succ_eq_append_getElem h, List.map_append, List.sum_append]
  simp only [List.map_cons, List.map_nil, List.sum_cons, List.sum_nil, Nat.add_zero]
theorem cnt_take_le (l : List S58) (i : Nat) : cnt (l.take i) ≤ cnt l := by
  unfold cnt
  rw [show l.filter isV = (l.take i).filter isV ++ (l.drop i).filter isV by rw [← List.filter_append, List.take_append_drop], List.length_append]
  omega
theorem cnt_at (l : List S58) (i : Nat) (h : i < l.length) : cnt (l.take (i + 1)) = cnt (l.take i) + if isV l[i] = true then 1 else 0 := by
  unfold cnt
  rw [List.take_succ_eq_append_getElem h, List.filter_append, List.length_append]
  by_cases c : isV l[i] = true <;> simp [c]
theorem isV_iff (x : S58) : isV x = true ↔ ¬ x.f1 = 0 := by simp [isV]
/-- The program's list of places. -/
theorem places_ev (s : ByteArray) (a : Int) (l2 : List Int) (b : Int) (bs : List S61) (hl : bs.length ≤ 1048576) (hs : ∀ x ∈ bs, smIB x) : Ev (fun k => impl_places.f k s a l2 b bs) (allP 0 bs) := by
  have hcap : cntB bs ≤ 1099511627776 := by
    have := cntB_le bs hs
    have h2 : bs.length * 1048576 ≤ 1048576 * 1048576 := Nat.mul_le_mul_right _ hl
    omega
  -- a block's instructions
  have inner : ∀ (i : Nat) (hi : i < bs.length) (d j : Nat) (acc : List S67), j + d = (bs[i]).f0.length → acc.length = cntB (bs.take i) + cnt ((bs[i]).f0.take j) → ∀ r,
      Ev (fun k => impl_places.l0 k (acc ++ rowP i j ((bs[i]).f0.drop j)) bs (bs.length : Int) ((i + 1 : Nat) : Int)) r →
      Ev (fun k => impl_places.l1 k acc (i : Int) bs (bs.length : Int) (i : Int) (bs[i]).f0 ((bs[i]).f0.length : Int) (j : Int)) r := by
    intro i hi d
    have hsm := hs _ (List.getElem_mem hi)
    induction d with
    | zero =>
      intro j acc hj hacc r h
      have hj' : (bs[i]).f0.drop j = [] := List.drop_eq_nil_of_le (by omega)
      rw [hj'] at h
      refine Ev.step (fun k => ?_) h
      simp only [impl_places.l1]
      rw [if_neg (by omega), wrap64_next hi (by omega)]
      simp [rowP]
    | succ d ih =>
      intro j acc hj hacc r h
      have hlt : j < (bs[i]).f0.length := by omega
      have hb := hsm.1
      have hcl : cntB (bs.take (i + 1)) ≤ cntB bs := cntB_take_le bs (i + 1)
      rw [cntB_at bs i hi] at hcl
      have hct : cnt ((bs[i]).f0.take (j + 1)) ≤ cnt (bs[i]).f0 := cnt_take_le _ _
      rw [List.drop_eq_getElem_cons hlt] at h
      by_cases c : isV ((bs[i]).f0)[j] = true
      · have hc1 := cnt_at _ j hlt
        rw [if_pos c] at hc1
        have g := ih (j + 1) (acc ++ [⟨(i : Int), (j : Int)⟩]) (by omega) (by rw [List.length_append, hacc]; simp; omega) r (by
          simp only [rowP] at h
          rw [if_pos c] at h
          simpa using h)
        refine Ev.step (fun k => ?_) g
        simp only [impl_places.l1]
        rw [if_pos (by omega), if_pos (by omega), if_pos (by omega), rdII_at hlt, if_neg ((isV_iff _).1 c), if_pos (by omega), wrap64_next hlt (by omega)]
      · have hc1 := cnt_at _ j hlt
        rw [if_neg c] at hc1
        have g := ih (j + 1) acc (by omega) (by omega) r (by
          simp only [rowP] at h
          rw [if_neg c] at h
          exact h)
        refine Ev.step (fun k => ?_) g
        simp only [impl_places.l1]
        have c0 : (((bs[i]).f0)[j]).f1 = 0 := by
          have := mt (isV_iff _).2 c
          simpa using this
        rw [if_pos (by omega), if_pos (by omega), if_pos (by omega), rdII_at hlt, if_pos c0, wrap64_next hlt (by omega)]
  have outer : ∀ (d i : Nat) (acc : List S67), i + d = bs.length → acc.length = cntB (bs.take i) → Ev (fun k => impl_places.l0 k acc bs (bs.length : Int) (i : Int)) (acc ++ allP i (bs.drop i)) := by
    intro d
    induction d with
    | zero =>
      intro i acc hi hacc
      have hi' : bs.drop i = [] := List.drop_eq_nil_of_le (by omega)
      rw [hi']
      refine Ev.step (f := fun _ => some (acc ++ allP i [])) (fun k => ?_) (Ev.now _)
      simp only [impl_places.l0]
      rw [if_neg (by omega)]
      simp [allP]
    | succ d ih =>
      intro i acc hi hacc
      have hlt : i < bs.length := by omega
      have hrow : (rowP i 0 (bs[i]).f0).length = cnt (bs[i]).f0 := rowP_len _ _ _
      have g := ih (i + 1) (acc ++ rowP i 0 (bs[i]).f0) (by omega) (by rw [List.length_append, hacc, hrow, cntB_at bs i hlt])
      rw [List.drop_eq_getElem_cons hlt]
      have e : acc ++ allP i (bs[i] :: bs.drop (i + 1)) = (acc ++ rowP i 0 (bs[i]).f0) ++ allP (i + 1) (bs.drop (i + 1)) := by simp [allP]
      rw [e]
      have hin := inner i hlt (bs[i]).f0.length 0 acc (by omega) (by rw [hacc]; simp [cnt]) _ (by rw [List.drop_zero]; exact g)
      refine Ev.step (fun k => ?_) hin
      simp only [impl_places.l0]
      rw [if_pos (by omega), if_pos (by omega), if_pos (by omega), rdIB_at hlt]
      rfl
  have := outer bs.length 0 [] (by omega) (by simp [cntB])
  simp only [List.nil_append, List.drop_zero] at this
  exact Ev.congr (fun k => rfl) this
theorem rowP_mem (i : Nat) (l : List S58) : ∀ j p, p ∈ rowP i j l → p.f0 = (i : Int) ∧ (j : Int) ≤ p.f1 := by
  induction l with
  | nil => intro j p h; simp [rowP] at h
  | cons x xs ih =>
    intro j p h
    unfold rowP at h
    by_cases c : isV x = true
    · rw [if_pos c] at h
      rcases List.mem_cons.1 h with rfl | h
      · exact ⟨rfl, Int.le_refl _⟩
      · obtain ⟨h1, h2⟩ := ih _ _ h
        exact ⟨h1, by omega⟩
    · rw [if_neg c] at h
      obtain ⟨h1, h2⟩ := ih _ _ h
      exact ⟨h1, by omega⟩
theorem allP_mem (bs : List S61) : ∀ i p, p ∈ allP i bs → (i : Int) ≤ p.f0 := by
  induction bs with
  | nil => intro i p h; simp [allP] at h
  | cons b bs ih =>
    intro i p h
    rcases List.mem_append.1 h with h | h
    · have := (rowP_mem _ _ _ _ h).1
      omega
    · have := ih _ _ h
      omega
/-- Within a block: what stands before number m's place. -/
theorem rowP_split (i : Nat) (l : List S58) : ∀ (j m : Nat) (h : m < l.length), isV l[m] = true → ∃ A B, rowP i j l = A ++ ⟨(i : Int), ((j + m : Nat) : Int)⟩ :: B ∧ A.length = cnt (l.take m) ∧ ∀ p ∈ A, p.f1 < ((j + m : Nat) : Int) := by
  induction l with
  | nil => intro j m h; simp at h
  | cons x xs ih =>
    intro j m h hv
    cases m with
    | zero =>
      have hv' : isV x = true := hv
      exact ⟨[], rowP i (j + 1) xs, by simp [rowP, hv'], by simp [cnt], fun p hp => by simp at hp⟩
    | succ m =>
      obtain ⟨A, B, e, hA, hlt⟩ := ih (j + 1) m (by simpa using h) hv
      by_cases c : isV x = true
      · refine ⟨⟨(i : Int), (j : Int)⟩ :: A, B, ?_, ?_, ?_⟩
        · unfold rowP
          rw [if_pos c, e]
          simp [show j + 1 + m = j + (m + 1) by omega]
        · rw [List.length_cons, hA]
          simp [cnt, c]
        · intro p hp
          rcases List.mem_cons.1 hp with rfl | hp
          · show (j : Int) < _
            omega
          · have := hlt p hp
            omega
      · refine ⟨A, B, ?_, ?_, ?_⟩
        · unfold rowP
          rw [if_neg c, e]
          simp [show j + 1 + m = j + (m + 1) by omega]
        · rw [hA]
          simp [cnt, c]
        · intro p hp
          have := hlt p hp
          omega
theorem allP_split (bs : List S61) : ∀ (i0 i m : Nat) (h : i < bs.length) (hm : m < (bs[i]).f0.length), isV ((bs[i]).f0)[m] = true →
    ∃ A B, allP i0 bs = A ++ ⟨((i0 + i : Nat) : Int), (m : Int)⟩ :: B ∧ A.length = cntB (bs.take i) + cnt ((bs[i]).f0.take m) ∧ ∀ p ∈ A, ¬ (p.f0 = ((i0 + i : Nat) : Int) ∧ p.f1 = (m : Int)) := by
  induction bs with
  | nil => intro i0 i m h; simp at h
  | cons b bs ih =>
    intro i0 i m h hm hv
    cases i with
    | zero =>
      obtain ⟨A, B, e, hA, hlt⟩ := rowP_split i0 b.f0 0 m hm hv
      refine ⟨A, B ++ allP (i0 + 1) bs, ?_, ?_, ?_⟩
      · simp only [allP]
        rw [e]
        simp
      · rw [hA]
        simp [cntB]
      · rintro p hp ⟨_, e2⟩
        have := hlt p hp
        rw [e2] at this
        omega
    | succ i =>
      obtain ⟨A, B, e, hA, hlt⟩ := ih (i0 + 1) i m (by simpa using h) hm hv
      refine ⟨rowP i0 0 b.f0 ++ A, B, ?_, ?_, ?_⟩
      · simp only [allP]
        rw [e]
        simp [show i0 + 1 + i = i0 + (i + 1) by omega]
      · rw [List.length_append, hA, rowP_len]
        simp [cntB]
        omega
      · rintro p hp ⟨e1, e2⟩
        rcases List.mem_append.1 hp with hp | hp
        · have := (rowP_mem _ _ _ _ hp).1
          omega
        · exact hlt p hp ⟨by rw [e1]; omega, e2⟩



/-- The search for a place in a list of them. -/
theorem search_ev (s : ByteArray) (a : Int) (l2 : List Int) (b : Int) (bs : List S61) (h2 : l2.length ≤ 1048576) (x y : Int) (L A B : List S67) (hL : L = A ++ ⟨x, y⟩ :: B) (hne : ∀ p ∈ A, ¬ (p.f0 = x ∧ p.f1 = y)) (hlen : L.length ≤ 1099511627776) :
    Ev (fun k => impl_ResultOf.l0 k x y L (L.length : Int) 0 s a l2 b bs) ((l2.length : Int) + A.length) := by
  have rd : ∀ i : Nat, (h : i < L.length) → rd_T67 L (i : Int) = L[i] := fun i h => getD_at h _
  have hAL : A.length < L.length := by rw [hL]; simp
  have main : ∀ (d i : Nat), i + d = A.length → Ev (fun k => impl_ResultOf.l0 k x y L (L.length : Int) (i : Int) s a l2 b bs) ((l2.length : Int) + A.length) := by
    intro d
    induction d with
    | zero =>
      intro i hi
      have hi' : i = A.length := by omega
      subst hi'
      refine Ev.step (f := fun _ => some ((l2.length : Int) + A.length)) (fun k => ?_) (Ev.now _)
      simp only [impl_ResultOf.l0]
      rw [if_pos (by omega), if_pos (by omega), if_pos (by omega), rd _ hAL]
      have e : L[A.length] = ⟨x, y⟩ := by simp [hL]
      rw [e]
      simp only [beq_self_eq_true, Bool.and_self, if_true]
      rw [wrap64_id (by omega) (by omega)]
    | succ d ih =>
      intro i hi
      have hlt : i < L.length := by omega
      refine Ev.step (fun k => ?_) (ih (i + 1) (by omega))
      simp only [impl_ResultOf.l0]
      rw [if_pos (by omega), if_pos (by omega), if_pos (by omega), rd _ hlt, wrap64_next hlt (by omega)]
      have e : L[i] = A[i] := by
        simp only [hL]
        rw [List.getElem_append_left]
      have hn := hne A[i] (List.getElem_mem (by omega))
      rw [e]
      rw [if_neg]
      simpa using hn
  exact main A.length 0 (by omega)
/-- The reference's walk over the blocks. -/
theorem spec_ev (s : ByteArray) (a : Int) (l2 : List Int) (b : Int) (bs : List S61) (h2 : l2.length ≤ 1048576) (hl : bs.length ≤ 1048576) (hs : ∀ x ∈ bs, smIB x) (blk at_ : Nat) (hb : blk < bs.length) (ha : at_ < (bs[blk]).f0.length) :
    Ev (fun k => spec_ResultOf.l0 k (blk : Int) (at_ : Int) (l2.length : Int) 0 s a l2 b bs) (((l2.length + (cntB (bs.take blk) + cnt ((bs[blk]).f0.take at_)) : Nat)) : Int) := by
  have hcap : cntB bs ≤ 1099511627776 := by
    have := cntB_le bs hs
    have h2 : bs.length * 1048576 ≤ 1048576 * 1048576 := Nat.mul_le_mul_right _ hl
    omega
  have inner : ∀ (i : Nat) (hi : i < bs.length) (d j : Nat), j + d = (bs[i]).f0.length → (i = blk → j ≤ at_) → i ≤ blk → ∀ r,
      (i < blk → Ev (fun k => spec_ResultOf.l0 k (blk : Int) (at_ : Int) (((l2.length + cntB (bs.take (i + 1)) : Nat)) : Int) ((i + 1 : Nat) : Int) s a l2 b bs) r) →
      (i = blk → r = (((l2.length + (cntB (bs.take blk) + cnt ((bs[blk]).f0.take at_)) : Nat)) : Int)) →
      Ev (fun k => spec_ResultOf.l1 k (blk : Int) (at_ : Int) (((l2.length + (cntB (bs.take i) + cnt ((bs[i]).f0.take j)) : Nat)) : Int) (i : Int) (j : Int) s a l2 b bs) r := by
    intro i hi d
    have hsm := hs _ (List.getElem_mem hi)
    have hcl : cntB (bs.take (i + 1)) ≤ cntB bs := cntB_take_le bs (i + 1)
    rw [cntB_at bs i hi] at hcl
    induction d with
    | zero =>
      intro j hj hja hib r h1 h2
      have hlt : i < blk := by
        rcases Nat.lt_or_ge i blk with h | h
        · exact h
        · exfalso
          have e : i = blk := by omega
          have := hja e
          subst e
          omega
      have e : cnt ((bs[i]).f0.take j) = cnt (bs[i]).f0 := by rw [List.take_of_length_le (by omega)]
      refine Ev.step (fun k => ?_) (h1 hlt)
      simp only [spec_ResultOf.l1]
      rw [if_pos (by omega), if_pos (by omega), rdIB_at hi, if_neg (by omega), wrap64_next hi (by omega), e, cntB_at bs i hi]
    | succ d ih =>
      intro j hj hja hib r h1 h2
      have hlt : j < (bs[i]).f0.length := by omega
      have hg := hsm.1
      have hc1 := cnt_at _ j hlt
      have hct : cnt ((bs[i]).f0.take (j + 1)) ≤ cnt (bs[i]).f0 := cnt_take_le _ _
      by_cases stop : i = blk ∧ j = at_
      · obtain ⟨rfl, rfl⟩ := stop
        rw [← h2 rfl]
        refine Ev.step (f := fun k => spec_ResultOf.j3 k (i : Int) (j : Int) r (i : Int) (j : Int) true s a l2 b bs) (fun k => ?_) (Ev.step (f := fun _ => some r) (fun k => ?_) (Ev.now r))
        · simp only [spec_ResultOf.l1]
          rw [if_pos (by omega), if_pos (by omega), rdIB_at hi, if_pos (by omega), if_pos trivial, beq_self_eq_true]
        · simp only [spec_ResultOf.j3, if_true]
      · have jf : ∀ k, spec_ResultOf.l1 (k + 1) (blk : Int) (at_ : Int) (((l2.length + (cntB (bs.take i) + cnt ((bs[i]).f0.take j)) : Nat)) : Int) (i : Int) (j : Int) s a l2 b bs = spec_ResultOf.j3 k (blk : Int) (at_ : Int) (((l2.length + (cntB (bs.take i) + cnt ((bs[i]).f0.take j)) : Nat)) : Int) (i : Int) (j : Int) false s a l2 b bs := by
          intro k
          simp only [spec_ResultOf.l1]
          rw [if_pos (by omega), if_pos (by omega), rdIB_at hi, if_pos (by omega)]
          by_cases e : (i : Int) = (blk : Int)
          · rw [if_pos e]
            have : ((j : Int) == (at_ : Int)) = false := by
              rw [beq_eq_false_iff_ne]
              intro e2
              exact stop ⟨by omega, by omega⟩
            rw [this]
          · rw [if_neg e]
        have g := ih (j + 1) (by omega) (fun e => by
          have := hja e
          have : j ≠ at_ := fun e2 => stop ⟨e, e2⟩
          omega) hib r h1 h2
        refine Ev.step jf (Ev.step (fun k => ?_) g)
        simp only [spec_ResultOf.j3, Bool.false_eq_true, if_false]
        rw [if_pos (by omega), if_pos (by omega), rdIB_at hi, if_pos (by omega), if_pos (by omega), rdII_at hlt, wrap64_next hlt (by omega), hc1]
        by_cases c : isV ((bs[i]).f0)[j] = true
        · rw [if_neg ((isV_iff _).1 c), if_pos c, wrap64_id (by omega) (by omega)]
          congr 1
        · have c0 : (((bs[i]).f0)[j]).f1 = 0 := by
            have := mt (isV_iff _).2 c
            simpa using this
          rw [if_pos c0, if_neg c]
          congr 1
  have outer : ∀ (d i : Nat), i + d = blk → Ev (fun k => spec_ResultOf.l0 k (blk : Int) (at_ : Int) (((l2.length + cntB (bs.take i) : Nat)) : Int) (i : Int) s a l2 b bs) (((l2.length + (cntB (bs.take blk) + cnt ((bs[blk]).f0.take at_)) : Nat)) : Int) := by
    intro d
    induction d with
    | zero =>
      intro i hi
      have hi' : i = blk := by omega
      subst hi'
      have g := inner i hb (bs[i]).f0.length 0 (by omega) (fun _ => by omega) (by omega) _ (fun h => absurd h (by omega)) (fun _ => rfl)
      refine Ev.step (fun k => ?_) g
      simp only [spec_ResultOf.l0]
      rw [if_pos (by omega)]
      simp [cnt]
    | succ d ih =>
      intro i hi
      have g := inner i (by omega) (bs[i]).f0.length 0 (by omega) (fun _ => by omega) (by omega) _ (fun _ => ih (i + 1) (by omega)) (fun e => absurd e (by omega))
      refine Ev.step (fun k => ?_) g
      simp only [spec_ResultOf.l0]
      rw [if_pos (by omega)]
      simp [cnt]
  have := outer blk 0 (by omega)
  simpa [cntB] using this
theorem both_ev (s : ByteArray) (a : Int) (l2 : List Int) (b : Int) (bs : List S61) (h2 : l2.length ≤ 1048576) (hl : bs.length ≤ 1048576) (hs : ∀ x ∈ bs, smIB x) (x y : Int) :
    ∃ r, Ev (fun k => spec_ResultOf.f k s a l2 b bs x y) r ∧ Ev (fun k => impl_ResultOf.f k s a l2 b bs x y) r := by
  have jt1 : ∀ k, spec_ResultOf.j0 (k + 1) x y true s a l2 b bs = some (-1) := fun k => by simp only [spec_ResultOf.j0, if_true]
  have jt2 : ∀ k, impl_ResultOf.j0 (k + 1) x y true s a l2 b bs = some (-1) := fun k => by simp only [impl_ResultOf.j0, if_true]
  have e1 : Ev (fun k => spec_ResultOf.j0 k x y true s a l2 b bs) (-1) := Ev.step (f := fun _ => some (-1)) jt1 (Ev.now _)
  have e2 : Ev (fun k => impl_ResultOf.j0 k x y true s a l2 b bs) (-1) := Ev.step (f := fun _ => some (-1)) jt2 (Ev.now _)
  by_cases hx : 0 ≤ x ∧ x < (bs.length : Int)
  · obtain ⟨bi, rfl⟩ := Int.eq_ofNat_of_zero_le hx.1
    have hbi : bi < bs.length := by omega
    by_cases hy : 0 ≤ y ∧ y < ((bs[bi]).f0.length : Int)
    · obtain ⟨ai, rfl⟩ := Int.eq_ofNat_of_zero_le hy.1
      have hai : ai < (bs[bi]).f0.length := by omega
      have w1 : spec_l2At.f s a l2 b bs (bi : Int) (ai : Int) = some true := by
        unfold spec_l2At.f
        rw [if_pos (by omega), if_pos (by omega), if_pos (by omega), if_pos (by omega), rdIB_at hbi, decide_eq_true (by omega)]
      have w2 : impl_hasPlace.f s a l2 b bs (bi : Int) (ai : Int) = some true := by
        unfold impl_hasPlace.f
        rw [if_pos (by omega), if_pos (by omega), if_pos (by omega), if_pos (by omega), rdIB_at hbi, decide_eq_true (by omega)]
      have f1 : ∀ k, spec_ResultOf.f k s a l2 b bs (bi : Int) (ai : Int) = spec_ResultOf.j0 k (bi : Int) (ai : Int) (((bs[bi]).f0)[ai].f1 == 0) s a l2 b bs := by
        intro k
        unfold spec_ResultOf.f
        rw [w1]
        simp only [Option.bind_some, if_true]
        rw [if_pos (by omega), if_pos (by omega), if_pos (by omega), rdIB_at hbi, if_pos (by omega), rdII_at hai]
      have f2 : ∀ k, impl_ResultOf.f k s a l2 b bs (bi : Int) (ai : Int) = impl_ResultOf.j0 k (bi : Int) (ai : Int) (((bs[bi]).f0)[ai].f1 == 0) s a l2 b bs := by
        intro k
        unfold impl_ResultOf.f
        rw [w2]
        simp only [Option.bind_some, if_true]
        rw [if_pos (by omega), if_pos (by omega), if_pos (by omega), rdIB_at hbi, if_pos (by omega), rdII_at hai]
      by_cases hv : isV ((bs[bi]).f0)[ai] = true
      · have hz : (((bs[bi]).f0)[ai].f1 == 0) = false := by
          rw [beq_eq_false_iff_ne]
          exact (isV_iff _).1 hv
        refine ⟨_, Ev.congr f1 (Ev.step (fun k => ?_) (spec_ev s a l2 b bs h2 hl hs bi ai hbi hai)), Ev.congr f2 (Ev.step (f := fun k => (impl_places.f k s a l2 b bs).bind fun t => impl_ResultOf.l0 k (bi : Int) (ai : Int) t (t.length : Int) 0 s a l2 b bs) (fun k => ?_) (Ev.bind (f := fun k t => impl_ResultOf.l0 k (bi : Int) (ai : Int) t (t.length : Int) 0 s a l2 b bs) (places_ev s a l2 b bs hl hs) ?_))⟩
        · rw [hz]
          simp only [spec_ResultOf.j0, Bool.false_eq_true, if_false]
        · rw [hz]
          simp only [impl_ResultOf.j0, Bool.false_eq_true, if_false]
        · obtain ⟨A, B, e, hA, hne⟩ := allP_split bs 0 bi ai hbi hai hv
          simp only [Nat.zero_add] at e hne
          have hcap : cntB bs ≤ 1099511627776 := by
            have := cntB_le bs hs
            have h2 : bs.length * 1048576 ≤ 1048576 * 1048576 := Nat.mul_le_mul_right _ hl
            omega
          have := search_ev s a l2 b bs h2 (bi : Int) (ai : Int) (allP 0 bs) A B e hne (by rw [allP_len]; exact hcap)
          rw [hA] at this
          simpa using this
      · have hz : (((bs[bi]).f0)[ai].f1 == 0) = true := by
          have := mt (isV_iff _).2 hv
          simpa using this
        exact ⟨-1, Ev.congr (fun k => by rw [f1 k, hz]) e1, Ev.congr (fun k => by rw [f2 k, hz]) e2⟩
    · have w1 : spec_l2At.f s a l2 b bs (bi : Int) y = some false := by
        unfold spec_l2At.f
        rw [if_pos (by omega), if_pos (by omega)]
        by_cases h0 : y ≥ 0
        · rw [if_pos h0, if_pos (by omega), rdIB_at hbi, decide_eq_false (by omega)]
        · rw [if_neg h0]
      have w2 : impl_hasPlace.f s a l2 b bs (bi : Int) y = some false := by
        unfold impl_hasPlace.f
        rw [if_pos (by omega), if_pos (by omega)]
        by_cases h0 : y ≥ 0
        · rw [if_pos h0, if_pos (by omega), rdIB_at hbi, decide_eq_false (by omega)]
        · rw [if_neg h0]
      exact ⟨-1, Ev.congr (fun k => by unfold spec_ResultOf.f; rw [w1]; rfl) e1, Ev.congr (fun k => by unfold impl_ResultOf.f; rw [w2]; rfl) e2⟩
  · have w1 : spec_l2At.f s a l2 b bs x y = some false := by
      unfold spec_l2At.f
      by_cases h0 : x ≥ 0
      · rw [if_pos h0, if_neg (by omega)]
      · rw [if_neg h0]
    have w2 : impl_hasPlace.f s a l2 b bs x y = some false := by
      unfold impl_hasPlace.f
      by_cases h0 : x ≥ 0
      · rw [if_pos h0, if_neg (by omega)]
      · rw [if_neg h0]
    exact ⟨-1, Ev.congr (fun k => by unfold spec_ResultOf.f; rw [w1]; rfl) e1, Ev.congr (fun k => by unfold impl_ResultOf.f; rw [w2]; rfl) e2⟩
theorem FnExactResultOf : laws_FnExactResultOf.Pure := by
  intro s a l2 b l4 x y hs _ h2 _ h4 _ _
  obtain ⟨r, hsz, hsm⟩ := szFunc_ev s a l2 b l4 hs h2.1 h4.1 h4.2
  refine Ev.rounds (Ev.bind (f := fun k t => if t < 0 then some true else (laws_toFunc.f k s a l2 b l4).bind fun c => (spec_ResultOf.f k c.1 c.2.1 c.2.2.1 c.2.2.2.1 c.2.2.2.2 x y).bind fun g => (laws_toFunc.f k s a l2 b l4).bind fun d => (impl_ResultOf.f k d.1 d.2.1 d.2.2.1 d.2.2.2.1 d.2.2.2.2 x y).bind fun h => if h = g then ((laws_toFunc.f k s a l2 b l4).bind fun e => (laws_eqFunc.f k d.1 d.2.1 d.2.2.1 d.2.2.2.1 d.2.2.2.2 e.1 e.2.1 e.2.2.1 e.2.2.2.1 e.2.2.2.2).bind fun q => if q = true then some true else some false) else some false) hsz ?_)
  by_cases hr : r < 0
  · exact Ev.congr (f := fun _ => some true) (fun k => if_pos hr) (Ev.now _)
  obtain ⟨g2, g4, gs⟩ := hsm (by omega)
  have tf := toFunc_ev s a l2 b l4 g2 g4 gs
  have hl : (l4.map cBl).length ≤ 1048576 := by simpa using g4
  have hsb : ∀ z ∈ l4.map cBl, smIB z := by
    intro z hz
    obtain ⟨w, hw, rfl⟩ := List.mem_map.1 hz
    exact smIB_of (gs w hw)
  obtain ⟨v, ev1, ev2⟩ := both_ev s a l2 b (l4.map cBl) g2 hl hsb x y
  refine Ev.congr (fun k => if_neg hr) (Ev.bind (f := fun k c => (spec_ResultOf.f k c.1 c.2.1 c.2.2.1 c.2.2.2.1 c.2.2.2.2 x y).bind fun g => (laws_toFunc.f k s a l2 b l4).bind fun d => (impl_ResultOf.f k d.1 d.2.1 d.2.2.1 d.2.2.2.1 d.2.2.2.2 x y).bind fun h => if h = g then ((laws_toFunc.f k s a l2 b l4).bind fun e => (laws_eqFunc.f k d.1 d.2.1 d.2.2.1 d.2.2.2.1 d.2.2.2.2 e.1 e.2.1 e.2.2.1 e.2.2.2.1 e.2.2.2.2).bind fun q => if q = true then some true else some false) else some false) tf ?_)
  refine Ev.bind (f := fun k g => (laws_toFunc.f k s a l2 b l4).bind fun d => (impl_ResultOf.f k d.1 d.2.1 d.2.2.1 d.2.2.2.1 d.2.2.2.2 x y).bind fun h => if h = g then ((laws_toFunc.f k s a l2 b l4).bind fun e => (laws_eqFunc.f k d.1 d.2.1 d.2.2.1 d.2.2.2.1 d.2.2.2.2 e.1 e.2.1 e.2.2.1 e.2.2.2.1 e.2.2.2.2).bind fun q => if q = true then some true else some false) else some false) ev1 ?_
  refine Ev.bind (f := fun k d => (impl_ResultOf.f k d.1 d.2.1 d.2.2.1 d.2.2.2.1 d.2.2.2.2 x y).bind fun h => if h = v then ((laws_toFunc.f k s a l2 b l4).bind fun e => (laws_eqFunc.f k d.1 d.2.1 d.2.2.1 d.2.2.2.1 d.2.2.2.2 e.1 e.2.1 e.2.2.1 e.2.2.2.1 e.2.2.2.2).bind fun q => if q = true then some true else some false) else some false) tf ?_
  refine Ev.bind (f := fun k h => if h = v then ((laws_toFunc.f k s a l2 b l4).bind fun e => (laws_eqFunc.f k s a l2 b (l4.map cBl) e.1 e.2.1 e.2.2.1 e.2.2.2.1 e.2.2.2.2).bind fun q => if q = true then some true else some false) else some false) ev2 ?_
  refine Ev.congr (fun k => if_pos rfl) (Ev.bind (f := fun k e => (laws_eqFunc.f k s a l2 b (l4.map cBl) e.1 e.2.1 e.2.2.1 e.2.2.2.1 e.2.2.2.2).bind fun q => if q = true then some true else some false) tf ?_)
  exact Ev.bind (f := fun _ q => if q = true then some true else some false) (eqFunc_ev s a l2 b (l4.map cBl) g2 hl hsb) (Ev.now _)


end Go.Proofs.Ytnogjankhacdpaa.Pure
