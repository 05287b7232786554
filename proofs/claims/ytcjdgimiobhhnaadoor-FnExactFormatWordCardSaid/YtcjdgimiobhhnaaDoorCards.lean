/-
  DERIVED. GIVEN WITH THE SEED: THE CARDS: each row of YtcjdgimiobhhnaaDoorRows.lean that lists a variable, with what it lists TIED to the program's text (the seventh form; the later family's looks); each row that meets fmt, with fmt's text TOLD by the authors' own Lean function (tested against real Go, not proved from fmt's source: count such statements apart). THE CARD IS WHAT COUNTS. Prove the row's statement (the work); the ties are given (YtcjdgimiobhhnaaDoorTie.lean); close each card by the builder's one call (the guide's Derived/Test/ToyasCard.lean, 'card_holds'). Laid BY PROGRAM, IN A SANDBOX (cutbox-door.mjs). By AI agents, Wed Nov 11 2026. No macro, syntax, notation, axiom, sorry.
-/
import Derived.Test.YtcjdgimiobhhnaaDoorRows
import GoSem.ClaimSeven
namespace Go.Proofs.YtcjdgimiobhhnaaDoor
namespace Rows

/-- THE TIED CARD OF 'laws.FnExactTypeName'. -/
def fnExactTypeNameCard : Claim7 := { stood := { row := fnExactTypeNameRow, standIns := [], harness := (true, "2a4750bbbe2cfb820202188d5a04af64ce595540fbd70a053d7484806a3670a2"), looks := false }, kinds := [], alts := [], laidByText := true, laidKinds := [.data, .data, .data], laidTests := true, laidLooks := .later }
def FnExactTypeNameCardSaid : Prop := Claim7.holds Tryd.pinned (.plain (OpenSpec.ofChange fnExactTypeNameSpec)) fnExactTypeNameCard

/-- THE TIED CARD OF 'laws.FnExactFormatWord'. -/
def fnExactFormatWordCard : Claim7 := { stood := { row := fnExactFormatWordRow, standIns := [], harness := (true, "2a4750bbbe2cfb820202188d5a04af64ce595540fbd70a053d7484806a3670a2"), looks := false }, kinds := [], alts := [], laidByText := true, laidKinds := [.data, .data, .data], laidTests := true, laidLooks := .later }
def FnExactFormatWordCardSaid : Prop := Claim7.holds Tryd.pinned (.plain (OpenSpec.ofChange fnExactFormatWordSpec)) fnExactFormatWordCard

/-- THE SECOND FORM's CARD OF 'laws.FnExactTypeName'. -/
def fnExactTypeNameUptoCard : Claim7 := { stood := { row := fnExactTypeNameUptoRow, standIns := [], harness := (true, "2a4750bbbe2cfb820202188d5a04af64ce595540fbd70a053d7484806a3670a2"), looks := false }, kinds := [], alts := [], laidByText := true, laidKinds := [.data, .data, .data], laidTests := true, laidLooks := .later }
def FnExactTypeNameUptoCardSaid : Prop := Claim7.holds Tryd.pinned (.plain (OpenSpec.upto fnExactTypeNameSpec)) fnExactTypeNameUptoCard

/-- THE SECOND FORM's CARD OF 'laws.FnExactFormatWord'. -/
def fnExactFormatWordUptoCard : Claim7 := { stood := { row := fnExactFormatWordUptoRow, standIns := [], harness := (true, "2a4750bbbe2cfb820202188d5a04af64ce595540fbd70a053d7484806a3670a2"), looks := false }, kinds := [], alts := [], laidByText := true, laidKinds := [.data, .data, .data], laidTests := true, laidLooks := .later }
def FnExactFormatWordUptoCardSaid : Prop := Claim7.holds Tryd.pinned (.plain (OpenSpec.upto fnExactFormatWordSpec)) fnExactFormatWordUptoCard
end Rows
end Go.Proofs.YtcjdgimiobhhnaaDoor
