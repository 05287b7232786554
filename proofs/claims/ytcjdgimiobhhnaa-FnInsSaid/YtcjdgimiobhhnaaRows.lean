/-
  No cell of these rows narrows 'for every input' (looked for: loops, veiled, ifaces, maps, wideKeys, modest, calm, conditions, laid).
  DERIVED. THE GIVEN ROWS OF THIS SEAT. 7 by the template 'for every input the law returns true; each argument reads behind the call as it read before'; 0 by the template 'total and deterministic' (their statements: YtcjdgimiobhhnaaTotals.lean).
  GIVEN WITH THE SEED: the statements are not yours to turn. If you find one false, say at which input.
  Laid BY PROGRAM, IN A SANDBOX (cutbox-rows.mjs): the forced cells as the released guide's own fill.sh prints them over the translation 1648220e45195034… (all of the seat's roots in one cut). By AI agents, Wed Nov 11 2026. No macro, syntax, notation, axiom, sorry.
-/
import Derived.Test.YtcjdgimiobhhnaaChecked
import GoSem.Claim
import GoSem.ClaimJoined
import GoSem.ClaimMapViews
import Derived.JoinedTies
import Derived.KernelRfl
namespace Go.Proofs.Ytcjdgimiobhhnaa
/- THE CELL 'sum', in the pinned program and in every row, IS THE sha256 OF THE DUMP (.gsa) THAT YtcjdgimiobhhnaaProg.lean LOADS. Nothing in Lean hashes anything: it is a label: what it is worth is what the hold of that sum in a sandbox is worth. -/
noncomputable def Try.pinned : Pinned := { name := "ytcjdgimiobhhnaa", sum := "1648220e45195034956040f841026b09e75371779457a0f97c44a2314ff13d22", checked := Try.checked }
namespace Rows
def none {H : Type} : Left H := { results := [], args := [] }

/-- 'laws.FnExactPutBits': WHATEVER THE INPUT: true; the input reads as it did. -/
def fnExactPutBitsSpec : ChangeSpec := { name := "fnExactPutBits", fn := fun _ => fun
  | [d1, d2, d3] => { results := [.lit (.bool true)], args := [d1, d2, d3] }
  | _ => none }
def fnExactPutBitsRow : OpenClaim := { program := "ytcjdgimiobhhnaa", sum := "1648220e45195034956040f841026b09e75371779457a0f97c44a2314ff13d22", func := "loop.example/g00010/laws.FnExactPutBits", spec := "fnExactPutBits", apart := false }
def FnExactPutBitsSaid : Prop := fnExactPutBitsRow.holds Try.pinned (OpenSpec.ofChange fnExactPutBitsSpec)

/-- ITS FALSE NEIGHBOUR: 'it returns false'. Refute it at one input. -/
def fnExactPutBitsWrong : ChangeSpec := { name := "fnExactPutBits", fn := fun _ => fun
  | [d1, d2, d3] => { results := [.lit (.bool false)], args := [d1, d2, d3] }
  | _ => none }
def FnExactPutBitsWrongFalsely : Prop := fnExactPutBitsRow.holds Try.pinned (OpenSpec.ofChange fnExactPutBitsWrong)

/-- 'laws.FnExactGetVar': WHATEVER THE INPUT: true; the input reads as it did. -/
def fnExactGetVarSpec : ChangeSpec := { name := "fnExactGetVar", fn := fun _ => fun
  | [d1, d2, d3] => { results := [.lit (.bool true)], args := [d1, d2, d3] }
  | _ => none }
def fnExactGetVarRow : OpenClaim := { program := "ytcjdgimiobhhnaa", sum := "1648220e45195034956040f841026b09e75371779457a0f97c44a2314ff13d22", func := "loop.example/g00010/laws.FnExactGetVar", spec := "fnExactGetVar", apart := false }
def FnExactGetVarSaid : Prop := fnExactGetVarRow.holds Try.pinned (OpenSpec.ofChange fnExactGetVarSpec)

/-- ITS FALSE NEIGHBOUR: 'it returns false'. Refute it at one input. -/
def fnExactGetVarWrong : ChangeSpec := { name := "fnExactGetVar", fn := fun _ => fun
  | [d1, d2, d3] => { results := [.lit (.bool false)], args := [d1, d2, d3] }
  | _ => none }
def FnExactGetVarWrongFalsely : Prop := fnExactGetVarRow.holds Try.pinned (OpenSpec.ofChange fnExactGetVarWrong)

/-- 'laws.FnExactEncodeIns': WHATEVER THE INPUT: true; the input reads as it did. -/
def fnExactEncodeInsSpec : ChangeSpec := { name := "fnExactEncodeIns", fn := fun _ => fun
  | [d] => { results := [.lit (.bool true)], args := [d] }
  | _ => none }
def fnExactEncodeInsRow : OpenClaim := { program := "ytcjdgimiobhhnaa", sum := "1648220e45195034956040f841026b09e75371779457a0f97c44a2314ff13d22", func := "loop.example/g00010/laws.FnExactEncodeIns", spec := "fnExactEncodeIns", apart := false }
def FnExactEncodeInsSaid : Prop := fnExactEncodeInsRow.holds Try.pinned (OpenSpec.ofChange fnExactEncodeInsSpec)

/-- ITS FALSE NEIGHBOUR: 'it returns false'. Refute it at one input. -/
def fnExactEncodeInsWrong : ChangeSpec := { name := "fnExactEncodeIns", fn := fun _ => fun
  | [d] => { results := [.lit (.bool false)], args := [d] }
  | _ => none }
def FnExactEncodeInsWrongFalsely : Prop := fnExactEncodeInsRow.holds Try.pinned (OpenSpec.ofChange fnExactEncodeInsWrong)

/-- 'laws.FnExactPutVar': WHATEVER THE INPUT: true; the input reads as it did. -/
def fnExactPutVarSpec : ChangeSpec := { name := "fnExactPutVar", fn := fun _ => fun
  | [d1, d2, d3] => { results := [.lit (.bool true)], args := [d1, d2, d3] }
  | _ => none }
def fnExactPutVarRow : OpenClaim := { program := "ytcjdgimiobhhnaa", sum := "1648220e45195034956040f841026b09e75371779457a0f97c44a2314ff13d22", func := "loop.example/g00010/laws.FnExactPutVar", spec := "fnExactPutVar", apart := false }
def FnExactPutVarSaid : Prop := fnExactPutVarRow.holds Try.pinned (OpenSpec.ofChange fnExactPutVarSpec)

/-- ITS FALSE NEIGHBOUR: 'it returns false'. Refute it at one input. -/
def fnExactPutVarWrong : ChangeSpec := { name := "fnExactPutVar", fn := fun _ => fun
  | [d1, d2, d3] => { results := [.lit (.bool false)], args := [d1, d2, d3] }
  | _ => none }
def FnExactPutVarWrongFalsely : Prop := fnExactPutVarRow.holds Try.pinned (OpenSpec.ofChange fnExactPutVarWrong)

/-- 'laws.FnExactDecodeIns': WHATEVER THE INPUT: true; the input reads as it did. -/
def fnExactDecodeInsSpec : ChangeSpec := { name := "fnExactDecodeIns", fn := fun _ => fun
  | [d] => { results := [.lit (.bool true)], args := [d] }
  | _ => none }
def fnExactDecodeInsRow : OpenClaim := { program := "ytcjdgimiobhhnaa", sum := "1648220e45195034956040f841026b09e75371779457a0f97c44a2314ff13d22", func := "loop.example/g00010/laws.FnExactDecodeIns", spec := "fnExactDecodeIns", apart := false }
def FnExactDecodeInsSaid : Prop := fnExactDecodeInsRow.holds Try.pinned (OpenSpec.ofChange fnExactDecodeInsSpec)

/-- ITS FALSE NEIGHBOUR: 'it returns false'. Refute it at one input. -/
def fnExactDecodeInsWrong : ChangeSpec := { name := "fnExactDecodeIns", fn := fun _ => fun
  | [d] => { results := [.lit (.bool false)], args := [d] }
  | _ => none }
def FnExactDecodeInsWrongFalsely : Prop := fnExactDecodeInsRow.holds Try.pinned (OpenSpec.ofChange fnExactDecodeInsWrong)

/-- 'laws.FnIns': WHATEVER THE INPUT: true; the input reads as it did. -/
def fnInsSpec : ChangeSpec := { name := "fnIns", fn := fun _ => fun
  | [d1, d2] => { results := [.lit (.bool true)], args := [d1, d2] }
  | _ => none }
def fnInsRow : OpenClaim := { program := "ytcjdgimiobhhnaa", sum := "1648220e45195034956040f841026b09e75371779457a0f97c44a2314ff13d22", func := "loop.example/g00010/laws.FnIns", spec := "fnIns", apart := false }
def FnInsSaid : Prop := fnInsRow.holds Try.pinned (OpenSpec.ofChange fnInsSpec)

/-- ITS FALSE NEIGHBOUR: 'it returns false'. Refute it at one input. -/
def fnInsWrong : ChangeSpec := { name := "fnIns", fn := fun _ => fun
  | [d1, d2] => { results := [.lit (.bool false)], args := [d1, d2] }
  | _ => none }
def FnInsWrongFalsely : Prop := fnInsRow.holds Try.pinned (OpenSpec.ofChange fnInsWrong)

/-- 'laws.FnExactDefinedAt': WHATEVER THE INPUT: true; the input reads as it did. -/
def fnExactDefinedAtSpec : ChangeSpec := { name := "fnExactDefinedAt", fn := fun _ => fun
  | [d1, d2] => { results := [.lit (.bool true)], args := [d1, d2] }
  | _ => none }
def fnExactDefinedAtRow : OpenClaim := { program := "ytcjdgimiobhhnaa", sum := "1648220e45195034956040f841026b09e75371779457a0f97c44a2314ff13d22", func := "loop.example/g00010/laws.FnExactDefinedAt", spec := "fnExactDefinedAt", apart := false }
def FnExactDefinedAtSaid : Prop := fnExactDefinedAtRow.holds Try.pinned (OpenSpec.ofChange fnExactDefinedAtSpec)

/-- ITS FALSE NEIGHBOUR: 'it returns false'. Refute it at one input. -/
def fnExactDefinedAtWrong : ChangeSpec := { name := "fnExactDefinedAt", fn := fun _ => fun
  | [d1, d2] => { results := [.lit (.bool false)], args := [d1, d2] }
  | _ => none }
def FnExactDefinedAtWrongFalsely : Prop := fnExactDefinedAtRow.holds Try.pinned (OpenSpec.ofChange fnExactDefinedAtWrong)

/- THE SECOND FORM. 'bulk': how many values and letters a reading holds, each counted each time it is reached (what is shared counts as often as it is met; a slice's spare places count too). A statement '..UptoSaid' is the law's where the arguments, and the package variables that the reading takes, are together of bulk at most 1048576: NARROWER than '..Said'. Prove '..Said' where nothing that the law and all that it calls make is longer than what came in: it says more and counts as full. Else prove '..UptoSaid'. A law counts once. -/
mutual
def uptoBulk {H : Type} : DataW H → Nat
  | .lit (.string bytes) => bytes.length + 1
  | .lit _ => 1
  | .nil => 1
  | .ptr d => uptoBulk d + 1
  | .slice elems spare => uptoBulkAll elems + uptoBulkAll spare + 1
  | .agg parts => uptoBulkAll parts + 1
  | .iface _ d => uptoBulk d + 1
  | .map entries => uptoBulkEntries entries + 1
  | .held _ => 1
def uptoBulkAll {H : Type} : List (DataW H) → Nat
  | [] => 0
  | d :: r => uptoBulk d + uptoBulkAll r
def uptoBulkEntries {H : Type} : List (Lit × DataW H) → Nat
  | [] => 0
  | x :: r => uptoBulkEntry x + uptoBulkEntries r
def uptoBulkEntry {H : Type} : Lit × DataW H → Nat
  | (.string bytes, d) => bytes.length + uptoBulk d + 1
  | (_, d) => uptoBulk d + 1
 end
def uptoSmall : (H : Type) → List (DataW H) → Bool := fun _ ds => decide (uptoBulkAll ds ≤ 1048576)
def OpenSpec.upto (s : _root_.Go.ChangeSpec) : _root_.Go.OpenSpec := { _root_.Go.OpenSpec.ofChange s with cond := some uptoSmall }

/-- 'laws.FnExactPutBits', WHERE WHAT IT READS IS OF BULK AT MOST 1048576: true; the input reads as it did. -/
def fnExactPutBitsUptoRow : OpenClaim := { program := "ytcjdgimiobhhnaa", sum := "1648220e45195034956040f841026b09e75371779457a0f97c44a2314ff13d22", func := "loop.example/g00010/laws.FnExactPutBits", spec := "fnExactPutBits", apart := false, narrowed := true }
def FnExactPutBitsUptoSaid : Prop := fnExactPutBitsUptoRow.holds Try.pinned (OpenSpec.upto fnExactPutBitsSpec)

/-- 'laws.FnExactGetVar', WHERE WHAT IT READS IS OF BULK AT MOST 1048576: true; the input reads as it did. -/
def fnExactGetVarUptoRow : OpenClaim := { program := "ytcjdgimiobhhnaa", sum := "1648220e45195034956040f841026b09e75371779457a0f97c44a2314ff13d22", func := "loop.example/g00010/laws.FnExactGetVar", spec := "fnExactGetVar", apart := false, narrowed := true }
def FnExactGetVarUptoSaid : Prop := fnExactGetVarUptoRow.holds Try.pinned (OpenSpec.upto fnExactGetVarSpec)

/-- 'laws.FnExactEncodeIns', WHERE WHAT IT READS IS OF BULK AT MOST 1048576: true; the input reads as it did. -/
def fnExactEncodeInsUptoRow : OpenClaim := { program := "ytcjdgimiobhhnaa", sum := "1648220e45195034956040f841026b09e75371779457a0f97c44a2314ff13d22", func := "loop.example/g00010/laws.FnExactEncodeIns", spec := "fnExactEncodeIns", apart := false, narrowed := true }
def FnExactEncodeInsUptoSaid : Prop := fnExactEncodeInsUptoRow.holds Try.pinned (OpenSpec.upto fnExactEncodeInsSpec)

/-- 'laws.FnExactPutVar', WHERE WHAT IT READS IS OF BULK AT MOST 1048576: true; the input reads as it did. -/
def fnExactPutVarUptoRow : OpenClaim := { program := "ytcjdgimiobhhnaa", sum := "1648220e45195034956040f841026b09e75371779457a0f97c44a2314ff13d22", func := "loop.example/g00010/laws.FnExactPutVar", spec := "fnExactPutVar", apart := false, narrowed := true }
def FnExactPutVarUptoSaid : Prop := fnExactPutVarUptoRow.holds Try.pinned (OpenSpec.upto fnExactPutVarSpec)

/-- 'laws.FnExactDecodeIns', WHERE WHAT IT READS IS OF BULK AT MOST 1048576: true; the input reads as it did. -/
def fnExactDecodeInsUptoRow : OpenClaim := { program := "ytcjdgimiobhhnaa", sum := "1648220e45195034956040f841026b09e75371779457a0f97c44a2314ff13d22", func := "loop.example/g00010/laws.FnExactDecodeIns", spec := "fnExactDecodeIns", apart := false, narrowed := true }
def FnExactDecodeInsUptoSaid : Prop := fnExactDecodeInsUptoRow.holds Try.pinned (OpenSpec.upto fnExactDecodeInsSpec)

/-- 'laws.FnIns', WHERE WHAT IT READS IS OF BULK AT MOST 1048576: true; the input reads as it did. -/
def fnInsUptoRow : OpenClaim := { program := "ytcjdgimiobhhnaa", sum := "1648220e45195034956040f841026b09e75371779457a0f97c44a2314ff13d22", func := "loop.example/g00010/laws.FnIns", spec := "fnIns", apart := false, narrowed := true }
def FnInsUptoSaid : Prop := fnInsUptoRow.holds Try.pinned (OpenSpec.upto fnInsSpec)

/-- 'laws.FnExactDefinedAt', WHERE WHAT IT READS IS OF BULK AT MOST 1048576: true; the input reads as it did. -/
def fnExactDefinedAtUptoRow : OpenClaim := { program := "ytcjdgimiobhhnaa", sum := "1648220e45195034956040f841026b09e75371779457a0f97c44a2314ff13d22", func := "loop.example/g00010/laws.FnExactDefinedAt", spec := "fnExactDefinedAt", apart := false, narrowed := true }
def FnExactDefinedAtUptoSaid : Prop := fnExactDefinedAtUptoRow.holds Try.pinned (OpenSpec.upto fnExactDefinedAtSpec)

end Rows
end Go.Proofs.Ytcjdgimiobhhnaa
