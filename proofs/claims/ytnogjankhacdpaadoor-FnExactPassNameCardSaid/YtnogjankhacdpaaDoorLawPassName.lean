/- FnExactPassName: for every number the law returns true, its argument reads as it did, and so does the table of names; condition: the table starts as the program's text lays it (the card ties that). -/
import Derived.Test.YtnogjankhacdpaaDoorRows
import Derived.Test.YtnogjankhacdpaaDoorCards
import Derived.Test.YtnogjankhacdpaaDoorTie
import Derived.Test.YtnogjankhacdpaaDoorWalk1
import Derived.ProofKit
import Derived.ChangeSame
import Derived.ChangeVars
import Derived.JoinedOf
import Derived.RowKit
import Derived.RowKitTokens
import Derived.LaidLaws
import Derived.Lay
import Derived.OpenVars
import Derived.Deep.Strs
import Derived.Lib.LaidU8
import Derived.SevenTiedAt
import Derived.Stop.Joined
namespace Go.Proofs.YtnogjankhacdpaaDoor
open Go.ChangeShapes Go.WideShapes Go.ChangeAt Go.RowKit
set_option linter.unusedVariables false
set_option linter.unusedSimpArgs false
theorem own : ownKnob Tryd.prog.godebug = none := by kernel_rfl
theorem laidOut : laidOutB Tryd.prog = true := by kernel_rfl
theorem glob : Tryd.prog.globalNamed "loop.example/g00010/impl.passNames" = some 0 := by kernel_rfl
theorem globType : (Tryd.prog.globals[0]?).map (·.type) = some 24 := by kernel_rfl
theorem cells9 : Tryd.prog.cellsOf 9 = 1 := by kernel_rfl
abbrev listed : List (String × DataW Unit) := [("loop.example/g00010/impl.passNames", Rows.laid_loop_example_g00010_impl_passNames)]
/-- What the condition gives a walk: the table's slice, and each of its names. -/
theorem cells_of_laid {W : World} (h : laidMet Tryd.prog listed W) : ∃ (ad : Addr) (cap : Nat), W.cell? ⟨0, 0, none⟩ = some (.slice (some ad) 12 cap) ∧
    ∀ (i : Nat) (l : List UInt8), [[], [102, 111, 108, 100], [115, 119, 101, 101, 112], [116, 104, 105, 110], [112, 114, 111, 109, 111, 116, 101], [102, 111, 114, 119, 97, 114, 100], [110, 117, 109, 98, 101, 114], [99, 111, 110, 115, 116, 97, 110, 116, 115], [104, 111, 105, 115, 116], [116, 97, 105, 108, 108, 111, 111, 112], [105, 110, 108, 105, 110, 101], [100, 114, 111, 112]][i]? = some l → W.cell? (ad.add i) = some (.string ⟨l.toArray⟩) := by
  obtain ⟨g, t, cs, fuel, p, hg, ht, hvar, hd⟩ := Lib.laidMet.reads h (List.mem_singleton.2 rfl)
  obtain rfl := Option.some.inj (glob.symm.trans hg)
  obtain rfl := Option.some.inj (globType.symm.trans ht)
  rcases Go.Deep.open_strs Tryd.underlying24 Tryd.underlying9 cells9 hd with ⟨_, hx⟩ | ⟨a, len, cap, m, Sx, hcs, _, hl, _, hm, hx, hcell⟩
  · simp [Rows.laid_loop_example_g00010_impl_passNames] at hx
  have hx1 := congrArg Prod.fst hx
  simp only [Rows.laid_loop_example_g00010_impl_passNames, DataW.slice.injEq] at hx1
  obtain ⟨hx1, _⟩ := hx1
  have hlen : len = 12 := by
    have := congrArg List.length hx1
    simpa using this.symm
  subst hlen
  refine ⟨a, cap, ?_, fun i l hi => ?_⟩
  · have h0 := World.var?_cell glob hvar 0
    rw [h0]
    have : cs[0]? = cs.toList[0]? := by simp
    rw [this, hcs]
    rfl
  · have hi12 : i < 12 := by
      have := (List.getElem?_eq_some_iff.1 hi).1
      simpa using this
    have hmc : m = cap := by simpa using hm
    have h1 := (hcell i (by omega)).1
    rw [h1]
    have h2 := congrArg (fun (q : List (DataW Unit)) => q[i]?) hx1
    have h3 : ∀ j, j < 12 → ((List.range 12).map fun i => (DataW.lit (.string (Sx i).data.toList) : DataW Unit))[j]? = some (.lit (.string (Sx j).data.toList)) := by
      intro j hj
      simp [hj]
    simp only [h3 i hi12] at h2
    have h4 : (Sx i).data.toList = l := by
      rcases i with _ | _ | _ | _ | _ | _ | _ | _ | _ | _ | _ | _ | i
      all_goals first
        | (have e1 := Option.some.inj hi
           have e2 := Option.some.inj h2
           injection e2 with e2
           injection e2 with e2
           exact e2.symm.trans e1)
        | (exfalso; omega)
    rw [← h4]
/-- The witness: a start in which the table is laid by the kit's own function. -/
theorem witness_zip {H : Type} {enc : TypeId × Value → H} {C : Checked} {os : Os} {f : FuncId} {fn : Func} {s : ChangeSpec} {conds : List PathCond} {apart : Bool} {X : World → Array Value → Prop} (modest : Bool) (w0 : World) (args : Array Value) (fuel : Nat) (hos : w0.os = os)
    (hv : (w0.forCall (fun _ _ => 0) ⟨#[], args, []⟩).variablesZipB C.prog = true)
    (hr : ((w0.forCall (fun _ _ => 0) ⟨#[], args, []⟩).heap.toList.drop C.prog.globals.size).take ((begin C.prog (fun _ _ => 0) default).world.heap.size - C.prog.globals.size) =
      (begin C.prog (fun _ _ => 0) default).world.heap.toList.drop C.prog.globals.size)
    (hok : Input.okWideB C.prog (w0.forCall (fun _ _ => 0) ⟨#[], args, []⟩) f ⟨#[], args, []⟩ = true)
    (hpre : s.preB enc C.prog fn conds apart (w0.forCall (fun _ _ => 0) ⟨#[], args, []⟩).memory args fuel = true)
    (hsz : s.sizedB enc C.prog fn apart (w0.forCall (fun _ _ => 0) ⟨#[], args, []⟩).memory args fuel = true)
    (hx : X (w0.forCall (fun _ _ => 0) ⟨#[], args, []⟩).memory args) :
    ∃ (w : World) (tape : Tape) (i : Input), w.os = os ∧ (w.forCall tape i).Shaped C.prog ∧ i.vars = [] ∧ Input.okWide C.prog (w.forCall tape i) .any w.heap.size f i ∧
      ((s.pre enc C.prog fn conds apart (w.forCall tape i).memory i.args ∧ X (w.forCall tape i).memory i.args) ∧ sizedMet enc C.prog fn (OpenSpec.ofChange s) apart (w.forCall tape i).memory i.args) ∧ ({ modest := modest } : Assume).holds C.prog (lone (Frame.enter C.prog f i.args .normal) [] (w.forCall tape i)) :=
  ⟨w0, fun _ _ => 0, ⟨#[], args, []⟩, hos, World.shaped_of_ZipB hv hr, (Input.okWide_of_okWideB (base := 0) hok).1, (Input.okWide_of_okWideB hok).2, ⟨⟨ChangeSpec.pre_of_preB hpre, hx⟩, sizedMet_of_sizedB hsz⟩, by
    simp only [Assume.holds]
    exact ⟨by simp, by simp, fun _ => Modest.zero, by simp, by simp⟩⟩
theorem add_at (ad : Addr) (i : Nat) (h : 0 < i) : ad.add i = ⟨ad.block, ad.off + i, none⟩ := by
  unfold Addr.add
  rw [if_neg (by omega)]
theorem law_any (p : Int) (W : World) (hL : laidMet Tryd.prog listed W) : Calls Tryd.prog 3 #[.int .i64 p] W fun e w' => e = .returned (.bool true) ∧ Below W.heap.size W w' := by
  by_cases h1 : p < 1
  · exact law_low p W h1
  by_cases h2 : 11 < p
  · exact law_high p W h2
  obtain ⟨ad, cap, h0, hs⟩ := cells_of_laid hL
  obtain ⟨n, rfl⟩ : ∃ n : Nat, p = (n : Int) := ⟨p.toNat, by omega⟩
  have hn : n = 1 ∨ n = 2 ∨ n = 3 ∨ n = 4 ∨ n = 5 ∨ n = 6 ∨ n = 7 ∨ n = 8 ∨ n = 9 ∨ n = 10 ∨ n = 11 := by omega
  rcases hn with rfl | rfl | rfl | rfl | rfl | rfl | rfl | rfl | rfl | rfl | rfl
  · exact law_1 W ad cap h0 (by have := hs 1 _ rfl; rwa [add_at ad 1 (by omega)] at this)
  · exact law_2 W ad cap h0 (by have := hs 2 _ rfl; rwa [add_at ad 2 (by omega)] at this)
  · exact law_3 W ad cap h0 (by have := hs 3 _ rfl; rwa [add_at ad 3 (by omega)] at this)
  · exact law_4 W ad cap h0 (by have := hs 4 _ rfl; rwa [add_at ad 4 (by omega)] at this)
  · exact law_5 W ad cap h0 (by have := hs 5 _ rfl; rwa [add_at ad 5 (by omega)] at this)
  · exact law_6 W ad cap h0 (by have := hs 6 _ rfl; rwa [add_at ad 6 (by omega)] at this)
  · exact law_7 W ad cap h0 (by have := hs 7 _ rfl; rwa [add_at ad 7 (by omega)] at this)
  · exact law_8 W ad cap h0 (by have := hs 8 _ rfl; rwa [add_at ad 8 (by omega)] at this)
  · exact law_9 W ad cap h0 (by have := hs 9 _ rfl; rwa [add_at ad 9 (by omega)] at this)
  · exact law_10 W ad cap h0 (by have := hs 10 _ rfl; rwa [add_at ad 10 (by omega)] at this)
  · exact law_11 W ad cap h0 (by have := hs 11 _ rfl; rwa [add_at ad 11 (by omega)] at this)
set_option maxRecDepth 100000 in
theorem lifted (os : Os) (started : os.Started) (H : Type) (enc : TypeId × Value → H) :
    ReturnsInHanded {} Tryd.checked os 3 .any (fun w args => (Rows.fnExactPassNameSpec.pre enc Tryd.prog Tryd.f3 [] false w args ∧ laidMet Tryd.prog listed w) ∧ sizedMet enc Tryd.prog Tryd.f3 (OpenSpec.ofChange Rows.fnExactPassNameSpec) false w args)
      (Rows.fnExactPassNameSpec.post enc Tryd.prog Tryd.f3 false true false false) := by
  refine returnsInHanded_of_change_and (C := Tryd.checked) (X := fun w _ => laidMet Tryd.prog listed w) (fun _ _ _ hh h => h.of_heap hh) own started (by kernel_rfl) Tryd.func3
    (witness_zip (enc := enc) (C := Tryd.checked) (os := os) (X := fun w _ => laidMet Tryd.prog listed w) false (World.laidAll Tryd.prog os listed) #[.int .i64 0] 8 (World.laidAll_os _ _ _) (by kernel_rfl) (by kernel_rfl) (by kernel_rfl) (by kernel_rfl) (by kernel_rfl) (laidMet_laidAll _ (by kernel_rfl) (by kernel_rfl))) ?_
  intro W base args ds gs before hval0 hW _ _ hL _
  have hval : ∀ (j : Nat) t v, Tryd.f3.params[j]? = some t → args[j]? = some v → Value.okWide Tryd.prog W .any base t v := hval0
  have hW' := hW
  obtain ⟨p, q, hA0, hV0, rfl, hfz, hnd⟩ := hW
  have hA : DataW.TrodAll enc Tryd.prog W 0 (fun _ => true) true Tryd.f3.params.toList args.toList ds p := hA0
  have hV : DataW.TrodVars enc Tryd.prog W (fun _ => true) ["loop.example/g00010/impl.passNames"] gs q := hV0
  rw [Tryd.params3] at hA hval
  obtain ⟨v0, d0, rfl, rfl, h0⟩ := trodAll_one hA
  obtain ⟨n, rfl, rfl, rfl, hwn⟩ := open_int Tryd.underlying2 (hval 0 2 v0 rfl rfl) h0
  obtain ⟨g1, rfl⟩ : ∃ g1, gs = [g1] := by
    obtain ⟨g, t, cs, fuel, d, p', e, _⟩ := trodVars_one hV
    exact ⟨d, e⟩
  have e1 : Rows.fnExactPassNameSpec.fn H ([.lit (.int .i64 n)] ++ [g1]) = { results := [.lit (.bool true)], args := [.lit (.int .i64 n)], vars := [g1] } := by simp [Rows.fnExactPassNameSpec]
  refine (law_any n W hL).mono fun e W' ⟨he, bel⟩ => ?_
  subst he
  have hV2 := Below.trodVars laidOut bel (ns := ["loop.example/g00010/impl.passNames"]) (by kernel_rfl) hV
  refine ⟨_, rfl, _, _, _, [], [], q, hW', ?_, ?_, ?_, bel.frame _, fun h => by cases h⟩
  · rw [e1]; exact trodAll_mk1 (shut_bool Tryd.underlying4 true)
  · rw [e1]; exact trodAll_mk1 (shut_int Tryd.underlying2 hwn)
  · rw [e1]; exact hV2
theorem row_holds : Rows.FnExactPassNameSaid :=
  OpenClaim.holds_of_wide 3 Tryd.f3 rfl rfl rfl rfl rfl rfl rfl ⟨rfl, rfl, rfl, rfl, rfl⟩ rfl rfl rfl rfl rfl (by kernel_rfl) Tryd.func3 (by kernel_rfl)
    (of_decide_eq_true (by kernel_rfl)) (by unfold Func.isWrapper; first | (rw [if_pos (by decide +kernel)]; kernel_rfl) | (rw [if_neg (by decide +kernel)]; exact ⟨rfl, rfl⟩))
    (fun os started H enc _ => lifted os started H enc)
theorem fnExactPassName_holds : Rows.FnExactPassNameCardSaid :=
  Claim7.holds_tied_plain_at .later [] [.data] true (true, "4a35854a4d49f9c42accdbec9fab4ebd5eff566d1f31fa4a0242e5494cc7040a") false
    row_holds (fun _ h => by cases h) (by kernel_rfl) (fun _ h => by cases h) fnExactPassName_row_tie rfl ⟨rfl, rfl⟩ (by kernel_rfl) rfl
    (fun f fn hf hfn => by
      obtain rfl : f = 3 := Option.some.inj ((show Tryd.prog.funcNamed "loop.example/g00010/laws.FnExactPassName" = some 3 by kernel_rfl).symm.trans hf) |>.symm
      obtain rfl : fn = Tryd.f3 := (Option.some.inj (Tryd.func3.symm.trans hfn)).symm
      exact ⟨by kernel_rfl, fun j t ht => by
        rw [Tryd.params3] at ht
        have h3 : t = 2 := by
          rcases j with _ | j
          · simpa using ht.symm
          · simp at ht
        subst h3
        exact (show Tryd.prog.wantsStandIn 2 = false by kernel_rfl)⟩)
    (by kernel_rfl)
end Go.Proofs.YtnogjankhacdpaaDoor
