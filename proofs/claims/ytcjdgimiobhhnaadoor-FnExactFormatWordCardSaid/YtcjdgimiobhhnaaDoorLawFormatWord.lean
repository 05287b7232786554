/- FnExactFormatWord: for every width and word the law returns true and its arguments read as they did; condition: the library's three tables start as the program's text lays them (the card ties that). -/
import Derived.Test.YtcjdgimiobhhnaaDoorRows
import Derived.Test.YtcjdgimiobhhnaaDoorCards
import Derived.Test.YtcjdgimiobhhnaaDoorTie
import Derived.Test.YtcjdgimiobhhnaaDoorWalkF
import Derived.ProofKit
import Derived.ChangeSame
import Derived.ChangeVars
import Derived.JoinedOf
import Derived.RowKit
import Derived.RowKitTokens
import Derived.LaidLaws
import Derived.Lay
import Derived.OpenVars
import Derived.Lib.LaidU8
import Derived.SevenTiedAt
import Derived.Stop.Joined
import Derived.WalkKit
namespace Go.Proofs.YtcjdgimiobhhnaaDoor
open Go.ChangeShapes Go.WideShapes Go.ChangeAt Go.RowKit Go.Proofs.YtcjdgimiobhhnaaDoor.QFnExactFormatWord Go.Proofs.YtcjdgimiobhhnaaDoorW.PrintWords Go.Proofs.YtcjdgimiobhhnaaDoorW.PrintLast Go.Proofs.YtcjdgimiobhhnaaDoorW.PrintMore
set_option linter.unusedVariables false
set_option linter.unusedSimpArgs false
theorem own : ownKnob Tryd.prog.godebug = none := by kernel_rfl
theorem laidOut : laidOutB Tryd.prog = true := by kernel_rfl
abbrev listed : List (String × DataW Unit) := Rows.fnExactFormatWordRow.laid
/-- The witness: a start in which the table is laid by the kit's own function. -/
theorem witness_zip {H : Type} {enc : TypeId × Value → H} {C : Checked} {os : Os} {f : FuncId} {fn : Func} {s : ChangeSpec} {conds : List PathCond} {apart : Bool} {X : World → Array Value → Prop} (modest : Bool) (w0 : World) (args : Array Value) (fuel : Nat) (hos : w0.os = os)
    (hv : (w0.forCall (fun _ _ => 0) ⟨#[], args, []⟩).variablesZipB C.prog = true)
    (hr : ((w0.forCall (fun _ _ => 0) ⟨#[], args, []⟩).heap.toList.drop C.prog.globals.size).take ((begin C.prog (fun _ _ => 0) default).world.heap.size - C.prog.globals.size) =
      (begin C.prog (fun _ _ => 0) default).world.heap.toList.drop C.prog.globals.size)
    (hok : Input.okWideB C.prog (w0.forCall (fun _ _ => 0) ⟨#[], args, []⟩) f ⟨#[], args, []⟩ = true)
    (hpre : s.preB enc C.prog fn conds apart (w0.forCall (fun _ _ => 0) ⟨#[], args, []⟩).memory args fuel = true)
    (hsz : s.sizedB enc C.prog fn apart (w0.forCall (fun _ _ => 0) ⟨#[], args, []⟩).memory args fuel = true)
    (hx : X (w0.forCall (fun _ _ => 0) ⟨#[], args, []⟩).memory args) :
    ∃ (w : World) (tape : Tape) (i : Input), w.os = os ∧ (w.forCall tape i).Shaped C.prog ∧ i.vars = [] ∧ Input.okWide C.prog (w.forCall tape i) .any w.heap.size f i ∧
      ((s.pre enc C.prog fn conds apart (w.forCall tape i).memory i.args ∧ X (w.forCall tape i).memory i.args) ∧ sizedMet enc C.prog fn (OpenSpec.ofChange s) apart (w.forCall tape i).memory i.args) ∧ ({ modest := modest } : Assume).holds C.prog (lone (Frame.enter C.prog f i.args .normal) [] (w.forCall tape i)) :=
  ⟨w0, fun _ _ => 0, ⟨#[], args, []⟩, hos, World.shaped_of_ZipB hv hr, (Input.okWide_of_okWideB (base := 0) hok).1, (Input.okWide_of_okWideB hok).2, ⟨⟨ChangeSpec.pre_of_preB hpre, hx⟩, sizedMet_of_sizedB hsz⟩, by
    simp only [Assume.holds]
    exact ⟨by simp, by simp, fun _ => Modest.zero, by simp, by simp⟩⟩
theorem tab_of_laid {W : World} (h : laidMet Tryd.prog listed W) : Lib.TabIs Tryd.prog W "internal/strconv.uint64pow10" .u64 Lib.pow10Tab := by
  obtain ⟨g, t, cs, fuel, p, hg, ht, hvar, hd⟩ := Lib.laidMet.reads h (show ("internal/strconv.uint64pow10", Rows.laid_internal_strconv_uint64pow10) ∈ listed from List.mem_cons_of_mem _ (List.mem_cons_of_mem _ (List.mem_singleton.2 rfl)))
  obtain rfl := Option.some.inj ((show Tryd.prog.globalNamed "internal/strconv.uint64pow10" = some 0 by kernel_rfl).symm.trans hg)
  obtain rfl := Option.some.inj ((show (Tryd.prog.globals[0]?).map (·.type) = some 43 by kernel_rfl).symm.trans ht)
  have e : (Rows.laid_internal_strconv_uint64pow10 : DataW Unit) = Lib.tabData .u64 Lib.pow10Tab := by rfl
  rw [e] at hd
  have hc := Lib.cells_of_tab Tryd.underlying43 Tryd.underlying24 (by kernel_rfl) (by kernel_rfl) hd
  unfold Lib.TabIs
  rw [hvar, ← hc]
theorem law_text (w v : Int) (W : World) (h0 : 0 ≤ v) (h1 : v < 18446744073709551616) (htab : Lib.TabIs Tryd.prog W "internal/strconv.uint64pow10" .u64 Lib.pow10Tab) : Calls Tryd.prog 8 #[.int .i64 w, .int .u64 v] W fun e w' => e = .returned (.string (fwText w v)) ∧ Below W.heap.size W w' := by
  cases hi : isB w v with
  | false =>
    have e : fwText w v = ⟨#[]⟩ := by
      unfold fwText
      rw [hi]
      rfl
    rw [e]
    exact impl_no w v W h0 h1 hi
  | true =>
    by_cases hw : w = 1
    · subst hw
      have h2 := (sgn_bd hi h0).2.2.2 rfl
      obtain ⟨u, rfl⟩ := Int.eq_ofNat_of_zero_le h0
      have := impl_one u W hi (by omega)
      rw [← one_fw hi h0, Int.toNat_natCast]
      exact this
    · rw [← itoa_fw hi h0 hw]
      exact impl_yes w v W h0 h1 hi hw htab
theorem law_any2 (w v : Int) (W : World) (hw : (Lit.int .i64 w).wf = true) (hv : (Lit.int .u64 v).wf = true) (hL : laidMet Tryd.prog listed W) : Calls Tryd.prog 4 #[.int .i64 w, .int .u64 v] W fun e w' => e = .returned (.bool true) ∧ Below W.heap.size W w' := by
  obtain ⟨h0, h1⟩ := pl_u64b hv
  obtain ⟨k, hk0⟩ := spec_fw_ev w v h0 h1
  have hk := hk0 k (Nat.le_refl _)
  clear hk0
  have HK := Aside0.mk hk
  have HT := Aside0.mk (tab_of_laid hL)
  clear hk hL
  obtain ⟨s, hs⟩ : ∃ s, s = fwText w v := ⟨_, rfl⟩
  rw [← hs] at HK
  have HS := Aside0.mk hs
  clear hs
  go_enter Tryd.func4, Tryd.ntmps4
  go_wp2_with (first | (go_at_call 7; refine (spec_FormatWord.calls k w v s _ HK.out).mono ?_; rintro e w1 ⟨rfl, hb⟩) | (go_at_call 8; refine (law_text w v _ h0 h1 (tab_below hb HT.out)).mono ?_; rw [← HS.out]; rintro e w2 ⟨rfl, hb2⟩))
  go_ret
  exact ⟨rfl, below_step hb hb2⟩
set_option maxRecDepth 100000 in
theorem lifted (os : Os) (started : os.Started) (H : Type) (enc : TypeId × Value → H) :
    ReturnsInHanded {} Tryd.checked os 4 .any (fun w args => (Rows.fnExactFormatWordSpec.pre enc Tryd.prog Tryd.f4 [] false w args ∧ laidMet Tryd.prog listed w) ∧ sizedMet enc Tryd.prog Tryd.f4 (OpenSpec.ofChange Rows.fnExactFormatWordSpec) false w args)
      (Rows.fnExactFormatWordSpec.post enc Tryd.prog Tryd.f4 false true false false) := by
  refine returnsInHanded_of_change_and (C := Tryd.checked) (X := fun w _ => laidMet Tryd.prog listed w) (fun _ _ _ hh h => h.of_heap hh) own started (by kernel_rfl) Tryd.func4
    (witness_zip (enc := enc) (C := Tryd.checked) (os := os) (X := fun w _ => laidMet Tryd.prog listed w) false (World.laidAll Tryd.prog os listed) #[.int .i64 0, .int .u64 0] 8 (World.laidAll_os _ _ _) (by kernel_rfl) (by kernel_rfl) (by kernel_rfl) (by kernel_rfl) (by kernel_rfl) (laidMet_laidAll _ (by kernel_rfl) (by kernel_rfl))) ?_
  intro W base args ds gs before hval0 hW _ _ hL _
  have hval : ∀ (j : Nat) t v, Tryd.f4.params[j]? = some t → args[j]? = some v → Value.okWide Tryd.prog W .any base t v := hval0
  have hW' := hW
  obtain ⟨p, q, hA0, hV0, rfl, hfz, hnd⟩ := hW
  have hA : DataW.TrodAll enc Tryd.prog W 0 (fun _ => true) true Tryd.f4.params.toList args.toList ds p := hA0
  have hV : DataW.TrodVars enc Tryd.prog W (fun _ => true) [] gs q := hV0
  rw [Tryd.params4] at hA hval
  obtain ⟨v0, v1, d0, d1, p0, p1, rfl, rfl, rfl, h0, h1⟩ := trodAll_two hA
  obtain ⟨n, rfl, rfl, rfl, hwn⟩ := open_int Tryd.underlying2 (hval 0 2 v0 rfl rfl) h0
  obtain ⟨m, rfl, rfl, rfl, hwm⟩ := open_int Tryd.underlying24 (hval 1 24 v1 rfl rfl) h1
  obtain ⟨rfl, rfl⟩ : gs = [] ∧ q = [] := trodVars_none hV
  have e1 : Rows.fnExactFormatWordSpec.fn H ([.lit (.int .i64 n), .lit (.int .u64 m)] ++ []) = { results := [.lit (.bool true)], args := [.lit (.int .i64 n), .lit (.int .u64 m)] } := by simp [Rows.fnExactFormatWordSpec]
  refine (law_any2 n m W hwn hwm hL).mono fun e W' ⟨he, bel⟩ => ?_
  subst he
  refine ⟨_, rfl, _, _, _, [], [], [], hW', ?_, ?_, ?_, bel.frame _, fun h => by cases h⟩
  · rw [e1]; exact trodAll_mk1 (shut_bool Tryd.underlying4 true)
  · rw [e1]; exact trodAll_mk2 (shut_int Tryd.underlying2 hwn) (shut_int Tryd.underlying24 hwm)
  · rw [e1]; rfl
theorem row_holds : Rows.FnExactFormatWordSaid :=
  OpenClaim.holds_of_wide 4 Tryd.f4 rfl rfl rfl rfl rfl rfl rfl ⟨rfl, rfl, rfl, rfl, rfl⟩ rfl rfl rfl rfl rfl (by kernel_rfl) Tryd.func4 (by kernel_rfl)
    (of_decide_eq_true (by kernel_rfl)) (by unfold Func.isWrapper; first | (rw [if_pos (by decide +kernel)]; kernel_rfl) | (rw [if_neg (by decide +kernel)]; exact ⟨rfl, rfl⟩))
    (fun os started H enc _ => lifted os started H enc)
theorem fnExactFormatWord_holds : Rows.FnExactFormatWordCardSaid :=
  Claim7.holds_tied_plain_at .later [] [.data, .data, .data] true (true, "2a4750bbbe2cfb820202188d5a04af64ce595540fbd70a053d7484806a3670a2") false
    row_holds (fun _ h => by cases h) (by kernel_rfl) (fun _ h => by cases h) fnExactFormatWord_row_tie rfl ⟨rfl, rfl⟩ (by kernel_rfl) rfl
    (fun f fn hf hfn => by
      obtain rfl : f = 4 := Option.some.inj ((show Tryd.prog.funcNamed "loop.example/g00010/laws.FnExactFormatWord" = some 4 by kernel_rfl).symm.trans hf) |>.symm
      obtain rfl : fn = Tryd.f4 := (Option.some.inj (Tryd.func4.symm.trans hfn)).symm
      exact ⟨by kernel_rfl, fun j t ht => by
        rw [Tryd.params4] at ht
        have h3 : t = 2 ∨ t = 24 := by
          rcases j with _ | _ | j
          · exact Or.inl (by simpa using ht.symm)
          · exact Or.inr (by simpa using ht.symm)
          · simp at ht
        rcases h3 with rfl | rfl
        · exact (show Tryd.prog.wantsStandIn 2 = false by kernel_rfl)
        · exact (show Tryd.prog.wantsStandIn 24 = false by kernel_rfl)⟩)
    (by kernel_rfl)
end Go.Proofs.YtcjdgimiobhhnaaDoor
