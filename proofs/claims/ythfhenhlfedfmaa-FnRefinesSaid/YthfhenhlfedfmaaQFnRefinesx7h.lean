-- written by mp.py, a program of this session, over the translation; Lean checks it
import Derived.Test.YthfhenhlfedfmaaQFnRefinesx0
import Derived.Test.YthfhenhlfedfmaaQFnRefinesx3
import Derived.Test.YthfhenhlfedfmaaQFnRefinesx5
import Derived.Test.YthfhenhlfedfmaaQFnRefinesx6
namespace Go.Proofs.Ythfhenhlfedfmaa.QFnRefines
open Go.RowKit Go.Proofs.YthfhenhlfedfmaaW.PrintWords Go.Proofs.YthfhenhlfedfmaaW.PrintLast Go.Proofs.YthfhenhlfedfmaaW.PrintMore
attribute [local go_sem] max2_int min2_int max_two min_two max_three min_three max_four min_four   -- for this text's walks alone
set_option linter.unusedVariables false
set_option linter.unusedSimpArgs false

/-! ### laws_FnRefines: function 8 -/
mutual
def laws_FnRefines.j0 : Nat → List Int → List Int → Bool → Option (Bool)
 | 0, _, _, _ => none
 | k + 1, x0, x1, x19 => if x19 = true then (some true) else ((spec_DrawRefines.f k x0).bind fun bt196 => ((spec_DrawRefines.f k x1).bind fun bt214 => ((impl_Refines.f k bt196.1 bt196.2.1 bt196.2.2.1 bt196.2.2.2.1 bt196.2.2.2.2.1 bt196.2.2.2.2.2.1 bt196.1 bt196.2.1 bt196.2.2.1 bt196.2.2.2.1 bt196.2.2.2.2.1 bt196.2.2.2.2.2.1).bind fun t232 => (if t232 = true then ((impl_Refines.f k bt196.2.2.2.2.2.2.1 bt196.2.2.2.2.2.2.2.1 bt196.2.2.2.2.2.2.2.2.1 bt196.2.2.2.2.2.2.2.2.2.1 bt196.2.2.2.2.2.2.2.2.2.2.1 bt196.2.2.2.2.2.2.2.2.2.2.2 bt196.2.2.2.2.2.2.1 bt196.2.2.2.2.2.2.2.1 bt196.2.2.2.2.2.2.2.2.1 bt196.2.2.2.2.2.2.2.2.2.1 bt196.2.2.2.2.2.2.2.2.2.2.1 bt196.2.2.2.2.2.2.2.2.2.2.2).bind fun t233 => (if t233 = true then ((impl_Refines.f k bt196.1 bt196.2.1 bt196.2.2.1 bt196.2.2.2.1 bt196.2.2.2.2.1 bt196.2.2.2.2.2.1 bt196.2.2.2.2.2.2.1 bt196.2.2.2.2.2.2.2.1 bt196.2.2.2.2.2.2.2.2.1 bt196.2.2.2.2.2.2.2.2.2.1 bt196.2.2.2.2.2.2.2.2.2.2.1 bt196.2.2.2.2.2.2.2.2.2.2.2).bind fun t234 => ((spec_Refines.f k bt196.1 bt196.2.1 bt196.2.2.1 bt196.2.2.2.1 bt196.2.2.2.2.1 bt196.2.2.2.2.2.1 bt196.2.2.2.2.2.2.1 bt196.2.2.2.2.2.2.2.1 bt196.2.2.2.2.2.2.2.2.1 bt196.2.2.2.2.2.2.2.2.2.1 bt196.2.2.2.2.2.2.2.2.2.2.1 bt196.2.2.2.2.2.2.2.2.2.2.2).bind fun t235 => (laws_FnRefines.j1 k (t234 != t235) bt196.1 bt196.2.1 bt196.2.2.1 bt196.2.2.2.1 bt196.2.2.2.2.1 bt196.2.2.2.2.2.1 bt196.2.2.2.2.2.2.1 bt196.2.2.2.2.2.2.2.1 bt196.2.2.2.2.2.2.2.2.1 bt196.2.2.2.2.2.2.2.2.2.1 bt196.2.2.2.2.2.2.2.2.2.2.1 bt196.2.2.2.2.2.2.2.2.2.2.2 bt214.2.2.2.2.2.2.1 bt214.2.2.2.2.2.2.2.1 bt214.2.2.2.2.2.2.2.2.1 bt214.2.2.2.2.2.2.2.2.2.1 bt214.2.2.2.2.2.2.2.2.2.2.1 bt214.2.2.2.2.2.2.2.2.2.2.2))) else (laws_FnRefines.j1 k true bt196.1 bt196.2.1 bt196.2.2.1 bt196.2.2.2.1 bt196.2.2.2.2.1 bt196.2.2.2.2.2.1 bt196.2.2.2.2.2.2.1 bt196.2.2.2.2.2.2.2.1 bt196.2.2.2.2.2.2.2.2.1 bt196.2.2.2.2.2.2.2.2.2.1 bt196.2.2.2.2.2.2.2.2.2.2.1 bt196.2.2.2.2.2.2.2.2.2.2.2 bt214.2.2.2.2.2.2.1 bt214.2.2.2.2.2.2.2.1 bt214.2.2.2.2.2.2.2.2.1 bt214.2.2.2.2.2.2.2.2.2.1 bt214.2.2.2.2.2.2.2.2.2.2.1 bt214.2.2.2.2.2.2.2.2.2.2.2))) else (laws_FnRefines.j1 k true bt196.1 bt196.2.1 bt196.2.2.1 bt196.2.2.2.1 bt196.2.2.2.2.1 bt196.2.2.2.2.2.1 bt196.2.2.2.2.2.2.1 bt196.2.2.2.2.2.2.2.1 bt196.2.2.2.2.2.2.2.2.1 bt196.2.2.2.2.2.2.2.2.2.1 bt196.2.2.2.2.2.2.2.2.2.2.1 bt196.2.2.2.2.2.2.2.2.2.2.2 bt214.2.2.2.2.2.2.1 bt214.2.2.2.2.2.2.2.1 bt214.2.2.2.2.2.2.2.2.1 bt214.2.2.2.2.2.2.2.2.2.1 bt214.2.2.2.2.2.2.2.2.2.2.1 bt214.2.2.2.2.2.2.2.2.2.2.2)))))
def laws_FnRefines.j1 : Nat → Bool → Int → Bool → Int → Int → List Int → Int → Int → Bool → Int → Int → List Int → Int → Int → Bool → Int → Int → List Int → Int → Option (Bool)
 | 0, _, _, _, _, _, _, _, _, _, _, _, _, _, _, _, _, _, _, _ => none
 | k + 1, x48, x213000, x213001, x213002, x213003, x213004, x213005, x214000, x214001, x214002, x214003, x214004, x214005, x232000, x232001, x232002, x232003, x232004, x232005 => if x48 = true then (some false) else (if x214000 = 0 then (if x214001 = true then (laws_FnRefines.j2 k (x214000 == 1) x213000 x213001 x213002 x213003 x213004 x213005 x214000 x214001 x214002 x214003 x214004 x214005 x232000 x232001 x232002 x232003 x232004 x232005) else (if x214002 = 0 then (laws_FnRefines.j2 k true x213000 x213001 x213002 x213003 x213004 x213005 x214000 x214001 x214002 x214003 x214004 x214005 x232000 x232001 x232002 x232003 x232004 x232005) else (laws_FnRefines.j2 k (x214000 == 1) x213000 x213001 x213002 x213003 x213004 x213005 x214000 x214001 x214002 x214003 x214004 x214005 x232000 x232001 x232002 x232003 x232004 x232005))) else (laws_FnRefines.j2 k (x214000 == 1) x213000 x213001 x213002 x213003 x213004 x213005 x214000 x214001 x214002 x214003 x214004 x214005 x232000 x232001 x232002 x232003 x232004 x232005))
def laws_FnRefines.j2 : Nat → Bool → Int → Bool → Int → Int → List Int → Int → Int → Bool → Int → Int → List Int → Int → Int → Bool → Int → Int → List Int → Int → Option (Bool)
 | 0, _, _, _, _, _, _, _, _, _, _, _, _, _, _, _, _, _, _, _ => none
 | k + 1, x9, x213000, x213001, x213002, x213003, x213004, x213005, x214000, x214001, x214002, x214003, x214004, x214005, x232000, x232001, x232002, x232003, x232004, x232005 => if x9 = true then ((impl_Refines.f k x213000 x213001 x213002 x213003 x213004 x213005 x214000 x214001 x214002 x214003 x214004 x214005).bind fun t236 => (if t236 = true then ((impl_Refines.f k x214000 x214001 x214002 x214003 x214004 x214005 x232000 x232001 x232002 x232003 x232004 x232005).bind fun t237 => (if t237 = true then ((impl_Refines.f k x213000 x213001 x213002 x213003 x213004 x213005 x232000 x232001 x232002 x232003 x232004 x232005).bind fun t238 => (laws_FnRefines.j3 k (!t238) x213000 x213001 x213002 x213003 x213004 x213005)) else (laws_FnRefines.j3 k false x213000 x213001 x213002 x213003 x213004 x213005))) else (laws_FnRefines.j3 k false x213000 x213001 x213002 x213003 x213004 x213005))) else (laws_FnRefines.j3 k false x213000 x213001 x213002 x213003 x213004 x213005)
def laws_FnRefines.j3 : Nat → Bool → Int → Bool → Int → Int → List Int → Int → Option (Bool)
 | 0, _, _, _, _, _, _, _ => none
 | k + 1, x85, x213000, x213001, x213002, x213003, x213004, x213005 => if x85 = true then (some false) else (if x213000 = 0 then (if x213001 = true then (laws_FnRefines.j4 k true x213000 x213001 x213002 x213003 x213004 x213005) else (laws_FnRefines.j4 k (x213002 != 0) x213000 x213001 x213002 x213003 x213004 x213005)) else (laws_FnRefines.j4 k true x213000 x213001 x213002 x213003 x213004 x213005))
def laws_FnRefines.j4 : Nat → Bool → Int → Bool → Int → Int → List Int → Int → Option (Bool)
 | 0, _, _, _, _, _, _, _ => none
 | k + 1, x99, x213000, x213001, x213002, x213003, x213004, x213005 => if x99 = true then (some true) else ((some (([] : List Int) : List Int)).bind fun y240 => (if y240.length + x213004.length < 17592186044416 then ((some (y240 ++ x213004 : List Int)).bind fun y243 => (if y243.length < 17592186044416 then ((impl_Refines.f k x213000 x213001 x213002 x213003 x213004 x213005 x213000 x213001 x213002 x213003 (y243 ++ [5]) x213005).bind fun t250 => (if t250 = true then (some false) else ((impl_Refines.f k x213000 x213001 x213002 x213003 x213004 x213005 x213000 x213001 x213002 (IntKind.u64.wrap (x213003 + 1)) x213004 x213005).bind fun t251 => (some (!t251))))) else (none))) else (none)))
end
def laws_FnRefines.f (k : Nat) (l0 : List Int) (l1 : List Int) : Option (Bool) := if (l0.length : Int) > 1048576 then (laws_FnRefines.j0 k l0 l1 true) else (laws_FnRefines.j0 k l0 l1 (decide ((l1.length : Int) > 1048576)))
theorem laws_FnRefines.mono_l : ∀ k, (∀ y0 y1 y2, LeO (laws_FnRefines.j0 k y0 y1 y2) (laws_FnRefines.j0 (k + 1) y0 y1 y2)) ∧ (∀ y0 y1 y2 y3 y4 y5 y6 y7 y8 y9 y10 y11 y12 y13 y14 y15 y16 y17 y18, LeO (laws_FnRefines.j1 k y0 y1 y2 y3 y4 y5 y6 y7 y8 y9 y10 y11 y12 y13 y14 y15 y16 y17 y18) (laws_FnRefines.j1 (k + 1) y0 y1 y2 y3 y4 y5 y6 y7 y8 y9 y10 y11 y12 y13 y14 y15 y16 y17 y18)) ∧ (∀ y0 y1 y2 y3 y4 y5 y6 y7 y8 y9 y10 y11 y12 y13 y14 y15 y16 y17 y18, LeO (laws_FnRefines.j2 k y0 y1 y2 y3 y4 y5 y6 y7 y8 y9 y10 y11 y12 y13 y14 y15 y16 y17 y18) (laws_FnRefines.j2 (k + 1) y0 y1 y2 y3 y4 y5 y6 y7 y8 y9 y10 y11 y12 y13 y14 y15 y16 y17 y18)) ∧ (∀ y0 y1 y2 y3 y4 y5 y6, LeO (laws_FnRefines.j3 k y0 y1 y2 y3 y4 y5 y6) (laws_FnRefines.j3 (k + 1) y0 y1 y2 y3 y4 y5 y6)) ∧ (∀ y0 y1 y2 y3 y4 y5 y6, LeO (laws_FnRefines.j4 k y0 y1 y2 y3 y4 y5 y6) (laws_FnRefines.j4 (k + 1) y0 y1 y2 y3 y4 y5 y6))
 | 0 => ⟨fun _ _ _ r h => by simp [laws_FnRefines.j0] at h, fun _ _ _ _ _ _ _ _ _ _ _ _ _ _ _ _ _ _ _ r h => by simp [laws_FnRefines.j1] at h, fun _ _ _ _ _ _ _ _ _ _ _ _ _ _ _ _ _ _ _ r h => by simp [laws_FnRefines.j2] at h, fun _ _ _ _ _ _ _ r h => by simp [laws_FnRefines.j3] at h, fun _ _ _ _ _ _ _ r h => by simp [laws_FnRefines.j4] at h⟩
 | k + 1 => by
  obtain ⟨ih0, ih1, ih2, ih3, ih4⟩ := laws_FnRefines.mono_l k
  refine ⟨?_, ?_, ?_, ?_, ?_⟩
  ·intro y0 y1 y2
   unfold laws_FnRefines.j0
   repeat' first
   | (with_reducible exact ih0 _ _ _)
   | (with_reducible exact ih1 _ _ _ _ _ _ _ _ _ _ _ _ _ _ _ _ _ _ _)
   | (with_reducible exact ih2 _ _ _ _ _ _ _ _ _ _ _ _ _ _ _ _ _ _ _)
   | (with_reducible exact ih3 _ _ _ _ _ _ _)
   | (with_reducible exact ih4 _ _ _ _ _ _ _)
   | (with_reducible exact impl_Refines.mono _ _ _ _ _ _ _ _ _ _ _ _ _)
   | (with_reducible exact spec_DrawRefines.mono _ _)
   | (with_reducible exact spec_Refines.mono _ _ _ _ _ _ _ _ _ _ _ _ _)
   | (with_reducible exact LeO.refl _)
   | (with_reducible exact LeO.none _)
   | (with_reducible refine LeO.ite ?_ ?_)
   | (with_reducible refine LeO.bind ?_ (fun _ => ?_))
   | exact ih0 _ _ _
   | exact ih1 _ _ _ _ _ _ _ _ _ _ _ _ _ _ _ _ _ _ _
   | exact ih2 _ _ _ _ _ _ _ _ _ _ _ _ _ _ _ _ _ _ _
   | exact ih3 _ _ _ _ _ _ _
   | exact ih4 _ _ _ _ _ _ _
   | exact impl_Refines.mono _ _ _ _ _ _ _ _ _ _ _ _ _
   | exact spec_DrawRefines.mono _ _
   | exact spec_Refines.mono _ _ _ _ _ _ _ _ _ _ _ _ _
   | exact LeO.none _
   | refine LeO.ite ?_ ?_
   | refine LeO.bind ?_ (fun _ => ?_)
  ·intro y0 y1 y2 y3 y4 y5 y6 y7 y8 y9 y10 y11 y12 y13 y14 y15 y16 y17 y18
   unfold laws_FnRefines.j1
   repeat' first
   | (with_reducible exact ih0 _ _ _)
   | (with_reducible exact ih1 _ _ _ _ _ _ _ _ _ _ _ _ _ _ _ _ _ _ _)
   | (with_reducible exact ih2 _ _ _ _ _ _ _ _ _ _ _ _ _ _ _ _ _ _ _)
   | (with_reducible exact ih3 _ _ _ _ _ _ _)
   | (with_reducible exact ih4 _ _ _ _ _ _ _)
   | (with_reducible exact impl_Refines.mono _ _ _ _ _ _ _ _ _ _ _ _ _)
   | (with_reducible exact spec_DrawRefines.mono _ _)
   | (with_reducible exact spec_Refines.mono _ _ _ _ _ _ _ _ _ _ _ _ _)
   | (with_reducible exact LeO.refl _)
   | (with_reducible exact LeO.none _)
   | (with_reducible refine LeO.ite ?_ ?_)
   | (with_reducible refine LeO.bind ?_ (fun _ => ?_))
   | exact ih0 _ _ _
   | exact ih1 _ _ _ _ _ _ _ _ _ _ _ _ _ _ _ _ _ _ _
   | exact ih2 _ _ _ _ _ _ _ _ _ _ _ _ _ _ _ _ _ _ _
   | exact ih3 _ _ _ _ _ _ _
   | exact ih4 _ _ _ _ _ _ _
   | exact impl_Refines.mono _ _ _ _ _ _ _ _ _ _ _ _ _
   | exact spec_DrawRefines.mono _ _
   | exact spec_Refines.mono _ _ _ _ _ _ _ _ _ _ _ _ _
   | exact LeO.none _
   | refine LeO.ite ?_ ?_
   | refine LeO.bind ?_ (fun _ => ?_)
  ·intro y0 y1 y2 y3 y4 y5 y6 y7 y8 y9 y10 y11 y12 y13 y14 y15 y16 y17 y18
   unfold laws_FnRefines.j2
   repeat' first
   | (with_reducible exact ih0 _ _ _)
   | (with_reducible exact ih1 _ _ _ _ _ _ _ _ _ _ _ _ _ _ _ _ _ _ _)
   | (with_reducible exact ih2 _ _ _ _ _ _ _ _ _ _ _ _ _ _ _ _ _ _ _)
   | (with_reducible exact ih3 _ _ _ _ _ _ _)
   | (with_reducible exact ih4 _ _ _ _ _ _ _)
   | (with_reducible exact impl_Refines.mono _ _ _ _ _ _ _ _ _ _ _ _ _)
   | (with_reducible exact spec_DrawRefines.mono _ _)
   | (with_reducible exact spec_Refines.mono _ _ _ _ _ _ _ _ _ _ _ _ _)
   | (with_reducible exact LeO.refl _)
   | (with_reducible exact LeO.none _)
   | (with_reducible refine LeO.ite ?_ ?_)
   | (with_reducible refine LeO.bind ?_ (fun _ => ?_))
   | exact ih0 _ _ _
   | exact ih1 _ _ _ _ _ _ _ _ _ _ _ _ _ _ _ _ _ _ _
   | exact ih2 _ _ _ _ _ _ _ _ _ _ _ _ _ _ _ _ _ _ _
   | exact ih3 _ _ _ _ _ _ _
   | exact ih4 _ _ _ _ _ _ _
   | exact impl_Refines.mono _ _ _ _ _ _ _ _ _ _ _ _ _
   | exact spec_DrawRefines.mono _ _
   | exact spec_Refines.mono _ _ _ _ _ _ _ _ _ _ _ _ _
   | exact LeO.none _
   | refine LeO.ite ?_ ?_
   | refine LeO.bind ?_ (fun _ => ?_)
  ·intro y0 y1 y2 y3 y4 y5 y6
   unfold laws_FnRefines.j3
   repeat' first
   | (with_reducible exact ih0 _ _ _)
   | (with_reducible exact ih1 _ _ _ _ _ _ _ _ _ _ _ _ _ _ _ _ _ _ _)
   | (with_reducible exact ih2 _ _ _ _ _ _ _ _ _ _ _ _ _ _ _ _ _ _ _)
   | (with_reducible exact ih3 _ _ _ _ _ _ _)
   | (with_reducible exact ih4 _ _ _ _ _ _ _)
   | (with_reducible exact impl_Refines.mono _ _ _ _ _ _ _ _ _ _ _ _ _)
   | (with_reducible exact spec_DrawRefines.mono _ _)
   | (with_reducible exact spec_Refines.mono _ _ _ _ _ _ _ _ _ _ _ _ _)
   | (with_reducible exact LeO.refl _)
   | (with_reducible exact LeO.none _)
   | (with_reducible refine LeO.ite ?_ ?_)
   | (with_reducible refine LeO.bind ?_ (fun _ => ?_))
   | exact ih0 _ _ _
   | exact ih1 _ _ _ _ _ _ _ _ _ _ _ _ _ _ _ _ _ _ _
   | exact ih2 _ _ _ _ _ _ _ _ _ _ _ _ _ _ _ _ _ _ _
   | exact ih3 _ _ _ _ _ _ _
   | exact ih4 _ _ _ _ _ _ _
   | exact impl_Refines.mono _ _ _ _ _ _ _ _ _ _ _ _ _
   | exact spec_DrawRefines.mono _ _
   | exact spec_Refines.mono _ _ _ _ _ _ _ _ _ _ _ _ _
   | exact LeO.none _
   | refine LeO.ite ?_ ?_
   | refine LeO.bind ?_ (fun _ => ?_)
  ·intro y0 y1 y2 y3 y4 y5 y6
   unfold laws_FnRefines.j4
   repeat' first
   | (with_reducible exact ih0 _ _ _)
   | (with_reducible exact ih1 _ _ _ _ _ _ _ _ _ _ _ _ _ _ _ _ _ _ _)
   | (with_reducible exact ih2 _ _ _ _ _ _ _ _ _ _ _ _ _ _ _ _ _ _ _)
   | (with_reducible exact ih3 _ _ _ _ _ _ _)
   | (with_reducible exact ih4 _ _ _ _ _ _ _)
   | (with_reducible exact impl_Refines.mono _ _ _ _ _ _ _ _ _ _ _ _ _)
   | (with_reducible exact spec_DrawRefines.mono _ _)
   | (with_reducible exact spec_Refines.mono _ _ _ _ _ _ _ _ _ _ _ _ _)
   | (with_reducible exact LeO.refl _)
   | (with_reducible exact LeO.none _)
   | (with_reducible refine LeO.ite ?_ ?_)
   | (with_reducible refine LeO.bind ?_ (fun _ => ?_))
   | exact ih0 _ _ _
   | exact ih1 _ _ _ _ _ _ _ _ _ _ _ _ _ _ _ _ _ _ _
   | exact ih2 _ _ _ _ _ _ _ _ _ _ _ _ _ _ _ _ _ _ _
   | exact ih3 _ _ _ _ _ _ _
   | exact ih4 _ _ _ _ _ _ _
   | exact impl_Refines.mono _ _ _ _ _ _ _ _ _ _ _ _ _
   | exact spec_DrawRefines.mono _ _
   | exact spec_Refines.mono _ _ _ _ _ _ _ _ _ _ _ _ _
   | exact LeO.none _
   | refine LeO.ite ?_ ?_
   | refine LeO.bind ?_ (fun _ => ?_)
theorem laws_FnRefines.mono : ∀ a0 a1 k, LeO (laws_FnRefines.f k a0 a1) (laws_FnRefines.f (k + 1) a0 a1) := by
 intro a0 a1 k
 obtain ⟨ih0, ih1, ih2, ih3, ih4⟩ := laws_FnRefines.mono_l k
 unfold laws_FnRefines.f
 repeat' first
   | (with_reducible exact ih0 _ _ _)
   | (with_reducible exact ih1 _ _ _ _ _ _ _ _ _ _ _ _ _ _ _ _ _ _ _)
   | (with_reducible exact ih2 _ _ _ _ _ _ _ _ _ _ _ _ _ _ _ _ _ _ _)
   | (with_reducible exact ih3 _ _ _ _ _ _ _)
   | (with_reducible exact ih4 _ _ _ _ _ _ _)
   | (with_reducible exact impl_Refines.mono _ _ _ _ _ _ _ _ _ _ _ _ _)
   | (with_reducible exact spec_DrawRefines.mono _ _)
   | (with_reducible exact spec_Refines.mono _ _ _ _ _ _ _ _ _ _ _ _ _)
   | (with_reducible exact LeO.refl _)
   | (with_reducible exact LeO.none _)
   | (with_reducible refine LeO.ite ?_ ?_)
   | (with_reducible refine LeO.bind ?_ (fun _ => ?_))
   | exact ih0 _ _ _
   | exact ih1 _ _ _ _ _ _ _ _ _ _ _ _ _ _ _ _ _ _ _
   | exact ih2 _ _ _ _ _ _ _ _ _ _ _ _ _ _ _ _ _ _ _
   | exact ih3 _ _ _ _ _ _ _
   | exact ih4 _ _ _ _ _ _ _
   | exact impl_Refines.mono _ _ _ _ _ _ _ _ _ _ _ _ _
   | exact spec_DrawRefines.mono _ _
   | exact spec_Refines.mono _ _ _ _ _ _ _ _ _ _ _ _ _
   | exact LeO.none _
   | refine LeO.ite ?_ ?_
   | refine LeO.bind ?_ (fun _ => ?_)

end Go.Proofs.Ythfhenhlfedfmaa.QFnRefines
