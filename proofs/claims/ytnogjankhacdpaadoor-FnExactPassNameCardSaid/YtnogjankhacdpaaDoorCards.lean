/-
  DERIVED. GIVEN WITH THE SEED: THE CARDS: each row of YtnogjankhacdpaaDoorRows.lean that lists a variable, with what it lists TIED to the program's text (the seventh form; the later family's looks); each row that meets fmt, with fmt's text TOLD by the authors' own Lean function (tested against real Go, not proved from fmt's source: count such statements apart). THE CARD IS WHAT COUNTS. Prove the row's statement (the work); the ties are given (YtnogjankhacdpaaDoorTie.lean); close each card by the builder's one call (the guide's Derived/Test/ToyasCard.lean, 'card_holds'). Laid BY PROGRAM, IN A SANDBOX (cutbox-door.mjs). By AI agents, Wed Nov 11 2026. No macro, syntax, notation, axiom, sorry.
-/
import Derived.Test.YtnogjankhacdpaaDoorRows
import GoSem.ClaimSeven
namespace Go.Proofs.YtnogjankhacdpaaDoor
namespace Rows

/-- THE TIED CARD OF 'laws.FnExactPassName'. -/
def fnExactPassNameCard : Claim7 := { stood := { row := fnExactPassNameRow, standIns := [], harness := (true, "4a35854a4d49f9c42accdbec9fab4ebd5eff566d1f31fa4a0242e5494cc7040a"), looks := false }, kinds := [], alts := [], laidByText := true, laidKinds := [.data], laidTests := true, laidLooks := .later }
def FnExactPassNameCardSaid : Prop := Claim7.holds Tryd.pinned (.plain (OpenSpec.ofChange fnExactPassNameSpec)) fnExactPassNameCard

/-- THE SECOND FORM's CARD OF 'laws.FnExactPassName'. -/
def fnExactPassNameUptoCard : Claim7 := { stood := { row := fnExactPassNameUptoRow, standIns := [], harness := (true, "4a35854a4d49f9c42accdbec9fab4ebd5eff566d1f31fa4a0242e5494cc7040a"), looks := false }, kinds := [], alts := [], laidByText := true, laidKinds := [.data], laidTests := true, laidLooks := .later }
def FnExactPassNameUptoCardSaid : Prop := Claim7.holds Tryd.pinned (.plain (OpenSpec.upto fnExactPassNameSpec)) fnExactPassNameUptoCard
end Rows
end Go.Proofs.YtnogjankhacdpaaDoor
