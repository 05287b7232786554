/-
  No cell of these rows narrows 'for every input' (looked for: loops, veiled, ifaces, maps, wideKeys, modest, calm, conditions, laid).
  DERIVED. THE GIVEN ROWS OF THIS SEAT. 12 by the template 'for every input the law returns true; each argument reads behind the call as it read before'; 0 by the template 'total and deterministic' (their statements: YthfhenhlfedfmaaTotals.lean).
  GIVEN WITH THE SEED: the statements are not yours to turn. If you find one false, say at which input.
  Laid BY PROGRAM, IN A SANDBOX (cutbox-rows.mjs): the forced cells as the released guide's own fill.sh prints them over the translation f43de6635286af33… (all of the seat's roots in one cut). By AI agents, Wed Nov 11 2026. No macro, syntax, notation, axiom, sorry.
-/
import Derived.Test.YthfhenhlfedfmaaChecked
import GoSem.Claim
import GoSem.ClaimJoined
import GoSem.ClaimMapViews
import Derived.JoinedTies
import Derived.KernelRfl
namespace Go.Proofs.Ythfhenhlfedfmaa
/- THE CELL 'sum', in the pinned program and in every row, IS THE sha256 OF THE DUMP (.gsa) THAT YthfhenhlfedfmaaProg.lean LOADS. Nothing in Lean hashes anything: it is a label: what it is worth is what the hold of that sum in a sandbox is worth. -/
noncomputable def Try.pinned : Pinned := { name := "ythfhenhlfedfmaa", sum := "f43de6635286af3354c2b1aa1db648d59a09cc1a16cbacacbe39d43c09c76f27", checked := Try.checked }
namespace Rows
def none {H : Type} : Left H := { results := [], args := [] }

/-- 'laws.FnExactValueTypes': WHATEVER THE INPUT: true; the input reads as it did. -/
def fnExactValueTypesSpec : ChangeSpec := { name := "fnExactValueTypes", fn := fun _ => fun
  | [d] => { results := [.lit (.bool true)], args := [d] }
  | _ => none }
def fnExactValueTypesRow : OpenClaim := { program := "ythfhenhlfedfmaa", sum := "f43de6635286af3354c2b1aa1db648d59a09cc1a16cbacacbe39d43c09c76f27", func := "loop.example/g00010/laws.FnExactValueTypes", spec := "fnExactValueTypes", apart := false }
def FnExactValueTypesSaid : Prop := fnExactValueTypesRow.holds Try.pinned (OpenSpec.ofChange fnExactValueTypesSpec)

/-- ITS FALSE NEIGHBOUR: 'it returns false'. Refute it at one input. -/
def fnExactValueTypesWrong : ChangeSpec := { name := "fnExactValueTypes", fn := fun _ => fun
  | [d] => { results := [.lit (.bool false)], args := [d] }
  | _ => none }
def FnExactValueTypesWrongFalsely : Prop := fnExactValueTypesRow.holds Try.pinned (OpenSpec.ofChange fnExactValueTypesWrong)

/-- 'laws.FnExactValidName': WHATEVER THE INPUT: true; the input reads as it did. -/
def fnExactValidNameSpec : ChangeSpec := { name := "fnExactValidName", fn := fun _ => fun
  | [d] => { results := [.lit (.bool true)], args := [d] }
  | _ => none }
def fnExactValidNameRow : OpenClaim := { program := "ythfhenhlfedfmaa", sum := "f43de6635286af3354c2b1aa1db648d59a09cc1a16cbacacbe39d43c09c76f27", func := "loop.example/g00010/laws.FnExactValidName", spec := "fnExactValidName", apart := false }
def FnExactValidNameSaid : Prop := fnExactValidNameRow.holds Try.pinned (OpenSpec.ofChange fnExactValidNameSpec)

/-- ITS FALSE NEIGHBOUR: 'it returns false'. Refute it at one input. -/
def fnExactValidNameWrong : ChangeSpec := { name := "fnExactValidName", fn := fun _ => fun
  | [d] => { results := [.lit (.bool false)], args := [d] }
  | _ => none }
def FnExactValidNameWrongFalsely : Prop := fnExactValidNameRow.holds Try.pinned (OpenSpec.ofChange fnExactValidNameWrong)

/-- 'laws.FnExactSigned': WHATEVER THE INPUT: true; the input reads as it did. -/
def fnExactSignedSpec : ChangeSpec := { name := "fnExactSigned", fn := fun _ => fun
  | [d1, d2] => { results := [.lit (.bool true)], args := [d1, d2] }
  | _ => none }
def fnExactSignedRow : OpenClaim := { program := "ythfhenhlfedfmaa", sum := "f43de6635286af3354c2b1aa1db648d59a09cc1a16cbacacbe39d43c09c76f27", func := "loop.example/g00010/laws.FnExactSigned", spec := "fnExactSigned", apart := false }
def FnExactSignedSaid : Prop := fnExactSignedRow.holds Try.pinned (OpenSpec.ofChange fnExactSignedSpec)

/-- ITS FALSE NEIGHBOUR: 'it returns false'. Refute it at one input. -/
def fnExactSignedWrong : ChangeSpec := { name := "fnExactSigned", fn := fun _ => fun
  | [d1, d2] => { results := [.lit (.bool false)], args := [d1, d2] }
  | _ => none }
def FnExactSignedWrongFalsely : Prop := fnExactSignedRow.holds Try.pinned (OpenSpec.ofChange fnExactSignedWrong)

/-- 'laws.FnExactStandard': WHATEVER THE INPUT: true; the input reads as it did. -/
def fnExactStandardSpec : ChangeSpec := { name := "fnExactStandard", fn := fun _ => fun
  | [d] => { results := [.lit (.bool true)], args := [d] }
  | _ => none }
def fnExactStandardRow : OpenClaim := { program := "ythfhenhlfedfmaa", sum := "f43de6635286af3354c2b1aa1db648d59a09cc1a16cbacacbe39d43c09c76f27", func := "loop.example/g00010/laws.FnExactStandard", spec := "fnExactStandard", apart := false }
def FnExactStandardSaid : Prop := fnExactStandardRow.holds Try.pinned (OpenSpec.ofChange fnExactStandardSpec)

/-- ITS FALSE NEIGHBOUR: 'it returns false'. Refute it at one input. -/
def fnExactStandardWrong : ChangeSpec := { name := "fnExactStandard", fn := fun _ => fun
  | [d] => { results := [.lit (.bool false)], args := [d] }
  | _ => none }
def FnExactStandardWrongFalsely : Prop := fnExactStandardRow.holds Try.pinned (OpenSpec.ofChange fnExactStandardWrong)

/-- 'laws.FnExactCast': WHATEVER THE INPUT: true; the input reads as it did. -/
def fnExactCastSpec : ChangeSpec := { name := "fnExactCast", fn := fun _ => fun
  | [d1, d2, d3, d4] => { results := [.lit (.bool true)], args := [d1, d2, d3, d4] }
  | _ => none }
def fnExactCastRow : OpenClaim := { program := "ythfhenhlfedfmaa", sum := "f43de6635286af3354c2b1aa1db648d59a09cc1a16cbacacbe39d43c09c76f27", func := "loop.example/g00010/laws.FnExactCast", spec := "fnExactCast", apart := false }
def FnExactCastSaid : Prop := fnExactCastRow.holds Try.pinned (OpenSpec.ofChange fnExactCastSpec)

/-- ITS FALSE NEIGHBOUR: 'it returns false'. Refute it at one input. -/
def fnExactCastWrong : ChangeSpec := { name := "fnExactCast", fn := fun _ => fun
  | [d1, d2, d3, d4] => { results := [.lit (.bool false)], args := [d1, d2, d3, d4] }
  | _ => none }
def FnExactCastWrongFalsely : Prop := fnExactCastRow.holds Try.pinned (OpenSpec.ofChange fnExactCastWrong)

/-- 'laws.FnRefines': WHATEVER THE INPUT: true; the input reads as it did. -/
def fnRefinesSpec : ChangeSpec := { name := "fnRefines", fn := fun _ => fun
  | [d1, d2] => { results := [.lit (.bool true)], args := [d1, d2] }
  | _ => none }
def fnRefinesRow : OpenClaim := { program := "ythfhenhlfedfmaa", sum := "f43de6635286af3354c2b1aa1db648d59a09cc1a16cbacacbe39d43c09c76f27", func := "loop.example/g00010/laws.FnRefines", spec := "fnRefines", apart := false }
def FnRefinesSaid : Prop := fnRefinesRow.holds Try.pinned (OpenSpec.ofChange fnRefinesSpec)

/-- ITS FALSE NEIGHBOUR: 'it returns false'. Refute it at one input. -/
def fnRefinesWrong : ChangeSpec := { name := "fnRefines", fn := fun _ => fun
  | [d1, d2] => { results := [.lit (.bool false)], args := [d1, d2] }
  | _ => none }
def FnRefinesWrongFalsely : Prop := fnRefinesRow.holds Try.pinned (OpenSpec.ofChange fnRefinesWrong)

/-- 'laws.FnExactGetBits': WHATEVER THE INPUT: true; the input reads as it did. -/
def fnExactGetBitsSpec : ChangeSpec := { name := "fnExactGetBits", fn := fun _ => fun
  | [d1, d2, d3] => { results := [.lit (.bool true)], args := [d1, d2, d3] }
  | _ => none }
def fnExactGetBitsRow : OpenClaim := { program := "ythfhenhlfedfmaa", sum := "f43de6635286af3354c2b1aa1db648d59a09cc1a16cbacacbe39d43c09c76f27", func := "loop.example/g00010/laws.FnExactGetBits", spec := "fnExactGetBits", apart := false }
def FnExactGetBitsSaid : Prop := fnExactGetBitsRow.holds Try.pinned (OpenSpec.ofChange fnExactGetBitsSpec)

/-- ITS FALSE NEIGHBOUR: 'it returns false'. Refute it at one input. -/
def fnExactGetBitsWrong : ChangeSpec := { name := "fnExactGetBits", fn := fun _ => fun
  | [d1, d2, d3] => { results := [.lit (.bool false)], args := [d1, d2, d3] }
  | _ => none }
def FnExactGetBitsWrongFalsely : Prop := fnExactGetBitsRow.holds Try.pinned (OpenSpec.ofChange fnExactGetBitsWrong)

/-- 'laws.FnExactCompare': WHATEVER THE INPUT: true; the input reads as it did. -/
def fnExactCompareSpec : ChangeSpec := { name := "fnExactCompare", fn := fun _ => fun
  | [d1, d2, d3, d4] => { results := [.lit (.bool true)], args := [d1, d2, d3, d4] }
  | _ => none }
def fnExactCompareRow : OpenClaim := { program := "ythfhenhlfedfmaa", sum := "f43de6635286af3354c2b1aa1db648d59a09cc1a16cbacacbe39d43c09c76f27", func := "loop.example/g00010/laws.FnExactCompare", spec := "fnExactCompare", apart := false }
def FnExactCompareSaid : Prop := fnExactCompareRow.holds Try.pinned (OpenSpec.ofChange fnExactCompareSpec)

/-- ITS FALSE NEIGHBOUR: 'it returns false'. Refute it at one input. -/
def fnExactCompareWrong : ChangeSpec := { name := "fnExactCompare", fn := fun _ => fun
  | [d1, d2, d3, d4] => { results := [.lit (.bool false)], args := [d1, d2, d3, d4] }
  | _ => none }
def FnExactCompareWrongFalsely : Prop := fnExactCompareRow.holds Try.pinned (OpenSpec.ofChange fnExactCompareWrong)

/-- 'laws.FnExactInsFault': WHATEVER THE INPUT: true; the input reads as it did. -/
def fnExactInsFaultSpec : ChangeSpec := { name := "fnExactInsFault", fn := fun _ => fun
  | [d] => { results := [.lit (.bool true)], args := [d] }
  | _ => none }
def fnExactInsFaultRow : OpenClaim := { program := "ythfhenhlfedfmaa", sum := "f43de6635286af3354c2b1aa1db648d59a09cc1a16cbacacbe39d43c09c76f27", func := "loop.example/g00010/laws.FnExactInsFault", spec := "fnExactInsFault", apart := false }
def FnExactInsFaultSaid : Prop := fnExactInsFaultRow.holds Try.pinned (OpenSpec.ofChange fnExactInsFaultSpec)

/-- ITS FALSE NEIGHBOUR: 'it returns false'. Refute it at one input. -/
def fnExactInsFaultWrong : ChangeSpec := { name := "fnExactInsFault", fn := fun _ => fun
  | [d] => { results := [.lit (.bool false)], args := [d] }
  | _ => none }
def FnExactInsFaultWrongFalsely : Prop := fnExactInsFaultRow.holds Try.pinned (OpenSpec.ofChange fnExactInsFaultWrong)

/-- 'laws.FnExactRefines': WHATEVER THE INPUT: true; the input reads as it did. -/
def fnExactRefinesSpec : ChangeSpec := { name := "fnExactRefines", fn := fun _ => fun
  | [d1, d2] => { results := [.lit (.bool true)], args := [d1, d2] }
  | _ => none }
def fnExactRefinesRow : OpenClaim := { program := "ythfhenhlfedfmaa", sum := "f43de6635286af3354c2b1aa1db648d59a09cc1a16cbacacbe39d43c09c76f27", func := "loop.example/g00010/laws.FnExactRefines", spec := "fnExactRefines", apart := false }
def FnExactRefinesSaid : Prop := fnExactRefinesRow.holds Try.pinned (OpenSpec.ofChange fnExactRefinesSpec)

/-- ITS FALSE NEIGHBOUR: 'it returns false'. Refute it at one input. -/
def fnExactRefinesWrong : ChangeSpec := { name := "fnExactRefines", fn := fun _ => fun
  | [d1, d2] => { results := [.lit (.bool false)], args := [d1, d2] }
  | _ => none }
def FnExactRefinesWrongFalsely : Prop := fnExactRefinesRow.holds Try.pinned (OpenSpec.ofChange fnExactRefinesWrong)

/-- 'laws.FnExactReads': WHATEVER THE INPUT: true; the input reads as it did. -/
def fnExactReadsSpec : ChangeSpec := { name := "fnExactReads", fn := fun _ => fun
  | [d] => { results := [.lit (.bool true)], args := [d] }
  | _ => none }
def fnExactReadsRow : OpenClaim := { program := "ythfhenhlfedfmaa", sum := "f43de6635286af3354c2b1aa1db648d59a09cc1a16cbacacbe39d43c09c76f27", func := "loop.example/g00010/laws.FnExactReads", spec := "fnExactReads", apart := false }
def FnExactReadsSaid : Prop := fnExactReadsRow.holds Try.pinned (OpenSpec.ofChange fnExactReadsSpec)

/-- ITS FALSE NEIGHBOUR: 'it returns false'. Refute it at one input. -/
def fnExactReadsWrong : ChangeSpec := { name := "fnExactReads", fn := fun _ => fun
  | [d] => { results := [.lit (.bool false)], args := [d] }
  | _ => none }
def FnExactReadsWrongFalsely : Prop := fnExactReadsRow.holds Try.pinned (OpenSpec.ofChange fnExactReadsWrong)

/-- 'laws.FnBits': WHATEVER THE INPUT: true; the input reads as it did. -/
def fnBitsSpec : ChangeSpec := { name := "fnBits", fn := fun _ => fun
  | [d] => { results := [.lit (.bool true)], args := [d] }
  | _ => none }
def fnBitsRow : OpenClaim := { program := "ythfhenhlfedfmaa", sum := "f43de6635286af3354c2b1aa1db648d59a09cc1a16cbacacbe39d43c09c76f27", func := "loop.example/g00010/laws.FnBits", spec := "fnBits", apart := false }
def FnBitsSaid : Prop := fnBitsRow.holds Try.pinned (OpenSpec.ofChange fnBitsSpec)

/-- ITS FALSE NEIGHBOUR: 'it returns false'. Refute it at one input. -/
def fnBitsWrong : ChangeSpec := { name := "fnBits", fn := fun _ => fun
  | [d] => { results := [.lit (.bool false)], args := [d] }
  | _ => none }
def FnBitsWrongFalsely : Prop := fnBitsRow.holds Try.pinned (OpenSpec.ofChange fnBitsWrong)

/- THE SECOND FORM. 'bulk': how many values and letters a reading holds, each counted each time it is reached (what is shared counts as often as it is met; a slice's spare places count too). A statement '..UptoSaid' is the law's where the arguments, and the package variables that the reading takes, are together of bulk at most 1048576: NARROWER than '..Said'. Prove '..Said' where nothing that the law and all that it calls make is longer than what came in: it says more and counts as full. Else prove '..UptoSaid'. A law counts once. -/
mutual
def uptoBulk {H : Type} : DataW H → Nat
  | .lit (.string bytes) => bytes.length + 1
  | .lit _ => 1
  | .nil => 1
  | .ptr d => uptoBulk d + 1
  | .slice elems spare => uptoBulkAll elems + uptoBulkAll spare + 1
  | .agg parts => uptoBulkAll parts + 1
  | .iface _ d => uptoBulk d + 1
  | .map entries => uptoBulkEntries entries + 1
  | .held _ => 1
def uptoBulkAll {H : Type} : List (DataW H) → Nat
  | [] => 0
  | d :: r => uptoBulk d + uptoBulkAll r
def uptoBulkEntries {H : Type} : List (Lit × DataW H) → Nat
  | [] => 0
  | x :: r => uptoBulkEntry x + uptoBulkEntries r
def uptoBulkEntry {H : Type} : Lit × DataW H → Nat
  | (.string bytes, d) => bytes.length + uptoBulk d + 1
  | (_, d) => uptoBulk d + 1
 end
def uptoSmall : (H : Type) → List (DataW H) → Bool := fun _ ds => decide (uptoBulkAll ds ≤ 1048576)
def OpenSpec.upto (s : _root_.Go.ChangeSpec) : _root_.Go.OpenSpec := { _root_.Go.OpenSpec.ofChange s with cond := some uptoSmall }

/-- 'laws.FnExactValueTypes', WHERE WHAT IT READS IS OF BULK AT MOST 1048576: true; the input reads as it did. -/
def fnExactValueTypesUptoRow : OpenClaim := { program := "ythfhenhlfedfmaa", sum := "f43de6635286af3354c2b1aa1db648d59a09cc1a16cbacacbe39d43c09c76f27", func := "loop.example/g00010/laws.FnExactValueTypes", spec := "fnExactValueTypes", apart := false, narrowed := true }
def FnExactValueTypesUptoSaid : Prop := fnExactValueTypesUptoRow.holds Try.pinned (OpenSpec.upto fnExactValueTypesSpec)

/-- 'laws.FnExactValidName', WHERE WHAT IT READS IS OF BULK AT MOST 1048576: true; the input reads as it did. -/
def fnExactValidNameUptoRow : OpenClaim := { program := "ythfhenhlfedfmaa", sum := "f43de6635286af3354c2b1aa1db648d59a09cc1a16cbacacbe39d43c09c76f27", func := "loop.example/g00010/laws.FnExactValidName", spec := "fnExactValidName", apart := false, narrowed := true }
def FnExactValidNameUptoSaid : Prop := fnExactValidNameUptoRow.holds Try.pinned (OpenSpec.upto fnExactValidNameSpec)

/-- 'laws.FnExactSigned', WHERE WHAT IT READS IS OF BULK AT MOST 1048576: true; the input reads as it did. -/
def fnExactSignedUptoRow : OpenClaim := { program := "ythfhenhlfedfmaa", sum := "f43de6635286af3354c2b1aa1db648d59a09cc1a16cbacacbe39d43c09c76f27", func := "loop.example/g00010/laws.FnExactSigned", spec := "fnExactSigned", apart := false, narrowed := true }
def FnExactSignedUptoSaid : Prop := fnExactSignedUptoRow.holds Try.pinned (OpenSpec.upto fnExactSignedSpec)

/-- 'laws.FnExactStandard', WHERE WHAT IT READS IS OF BULK AT MOST 1048576: true; the input reads as it did. -/
def fnExactStandardUptoRow : OpenClaim := { program := "ythfhenhlfedfmaa", sum := "f43de6635286af3354c2b1aa1db648d59a09cc1a16cbacacbe39d43c09c76f27", func := "loop.example/g00010/laws.FnExactStandard", spec := "fnExactStandard", apart := false, narrowed := true }
def FnExactStandardUptoSaid : Prop := fnExactStandardUptoRow.holds Try.pinned (OpenSpec.upto fnExactStandardSpec)

/-- 'laws.FnExactCast', WHERE WHAT IT READS IS OF BULK AT MOST 1048576: true; the input reads as it did. -/
def fnExactCastUptoRow : OpenClaim := { program := "ythfhenhlfedfmaa", sum := "f43de6635286af3354c2b1aa1db648d59a09cc1a16cbacacbe39d43c09c76f27", func := "loop.example/g00010/laws.FnExactCast", spec := "fnExactCast", apart := false, narrowed := true }
def FnExactCastUptoSaid : Prop := fnExactCastUptoRow.holds Try.pinned (OpenSpec.upto fnExactCastSpec)

/-- 'laws.FnRefines', WHERE WHAT IT READS IS OF BULK AT MOST 1048576: true; the input reads as it did. -/
def fnRefinesUptoRow : OpenClaim := { program := "ythfhenhlfedfmaa", sum := "f43de6635286af3354c2b1aa1db648d59a09cc1a16cbacacbe39d43c09c76f27", func := "loop.example/g00010/laws.FnRefines", spec := "fnRefines", apart := false, narrowed := true }
def FnRefinesUptoSaid : Prop := fnRefinesUptoRow.holds Try.pinned (OpenSpec.upto fnRefinesSpec)

/-- 'laws.FnExactGetBits', WHERE WHAT IT READS IS OF BULK AT MOST 1048576: true; the input reads as it did. -/
def fnExactGetBitsUptoRow : OpenClaim := { program := "ythfhenhlfedfmaa", sum := "f43de6635286af3354c2b1aa1db648d59a09cc1a16cbacacbe39d43c09c76f27", func := "loop.example/g00010/laws.FnExactGetBits", spec := "fnExactGetBits", apart := false, narrowed := true }
def FnExactGetBitsUptoSaid : Prop := fnExactGetBitsUptoRow.holds Try.pinned (OpenSpec.upto fnExactGetBitsSpec)

/-- 'laws.FnExactCompare', WHERE WHAT IT READS IS OF BULK AT MOST 1048576: true; the input reads as it did. -/
def fnExactCompareUptoRow : OpenClaim := { program := "ythfhenhlfedfmaa", sum := "f43de6635286af3354c2b1aa1db648d59a09cc1a16cbacacbe39d43c09c76f27", func := "loop.example/g00010/laws.FnExactCompare", spec := "fnExactCompare", apart := false, narrowed := true }
def FnExactCompareUptoSaid : Prop := fnExactCompareUptoRow.holds Try.pinned (OpenSpec.upto fnExactCompareSpec)

/-- 'laws.FnExactInsFault', WHERE WHAT IT READS IS OF BULK AT MOST 1048576: true; the input reads as it did. -/
def fnExactInsFaultUptoRow : OpenClaim := { program := "ythfhenhlfedfmaa", sum := "f43de6635286af3354c2b1aa1db648d59a09cc1a16cbacacbe39d43c09c76f27", func := "loop.example/g00010/laws.FnExactInsFault", spec := "fnExactInsFault", apart := false, narrowed := true }
def FnExactInsFaultUptoSaid : Prop := fnExactInsFaultUptoRow.holds Try.pinned (OpenSpec.upto fnExactInsFaultSpec)

/-- 'laws.FnExactRefines', WHERE WHAT IT READS IS OF BULK AT MOST 1048576: true; the input reads as it did. -/
def fnExactRefinesUptoRow : OpenClaim := { program := "ythfhenhlfedfmaa", sum := "f43de6635286af3354c2b1aa1db648d59a09cc1a16cbacacbe39d43c09c76f27", func := "loop.example/g00010/laws.FnExactRefines", spec := "fnExactRefines", apart := false, narrowed := true }
def FnExactRefinesUptoSaid : Prop := fnExactRefinesUptoRow.holds Try.pinned (OpenSpec.upto fnExactRefinesSpec)

/-- 'laws.FnExactReads', WHERE WHAT IT READS IS OF BULK AT MOST 1048576: true; the input reads as it did. -/
def fnExactReadsUptoRow : OpenClaim := { program := "ythfhenhlfedfmaa", sum := "f43de6635286af3354c2b1aa1db648d59a09cc1a16cbacacbe39d43c09c76f27", func := "loop.example/g00010/laws.FnExactReads", spec := "fnExactReads", apart := false, narrowed := true }
def FnExactReadsUptoSaid : Prop := fnExactReadsUptoRow.holds Try.pinned (OpenSpec.upto fnExactReadsSpec)

/-- 'laws.FnBits', WHERE WHAT IT READS IS OF BULK AT MOST 1048576: true; the input reads as it did. -/
def fnBitsUptoRow : OpenClaim := { program := "ythfhenhlfedfmaa", sum := "f43de6635286af3354c2b1aa1db648d59a09cc1a16cbacacbe39d43c09c76f27", func := "loop.example/g00010/laws.FnBits", spec := "fnBits", apart := false, narrowed := true }
def FnBitsUptoSaid : Prop := fnBitsUptoRow.holds Try.pinned (OpenSpec.upto fnBitsSpec)

end Rows
end Go.Proofs.Ythfhenhlfedfmaa
