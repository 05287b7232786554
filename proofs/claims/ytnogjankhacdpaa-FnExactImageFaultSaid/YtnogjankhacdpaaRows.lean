/-
  No cell of these rows narrows 'for every input' (looked for: loops, veiled, ifaces, maps, wideKeys, modest, calm, conditions, laid).
  DERIVED. THE GIVEN ROWS OF THIS SEAT. 11 by the template 'for every input the law returns true; each argument reads behind the call as it read before'; 0 by the template 'total and deterministic' (their statements: YtnogjankhacdpaaTotals.lean).
  GIVEN WITH THE SEED: the statements are not yours to turn. If you find one false, say at which input.
  Laid BY PROGRAM, IN A SANDBOX (cutbox-rows.mjs): the forced cells as the released guide's own fill.sh prints them over the translation 4a91fd4d8ed4601f… (all of the seat's roots in one cut). By AI agents, Wed Nov 11 2026. No macro, syntax, notation, axiom, sorry.
-/
import Derived.Test.YtnogjankhacdpaaChecked
import GoSem.Claim
import GoSem.ClaimJoined
import GoSem.ClaimMapViews
import Derived.JoinedTies
import Derived.KernelRfl
namespace Go.Proofs.Ytnogjankhacdpaa
/- THE CELL 'sum', in the pinned program and in every row, IS THE sha256 OF THE DUMP (.gsa) THAT YtnogjankhacdpaaProg.lean LOADS. Nothing in Lean hashes anything: it is a label: what it is worth is what the hold of that sum in a sandbox is worth. -/
noncomputable def Try.pinned : Pinned := { name := "ytnogjankhacdpaa", sum := "4a91fd4d8ed4601f8355b8c8d05672ff53e03a2db336ff886e89c8cf34885315", checked := Try.checked }
namespace Rows
def none {H : Type} : Left H := { results := [], args := [] }

/-- 'laws.FnExactConstants': WHATEVER THE INPUT: true; the input reads as it did. -/
def fnExactConstantsSpec : ChangeSpec := { name := "fnExactConstants", fn := fun _ => fun
  | [] => { results := [.lit (.bool true)], args := [] }
  | _ => none }
def fnExactConstantsRow : OpenClaim := { program := "ytnogjankhacdpaa", sum := "4a91fd4d8ed4601f8355b8c8d05672ff53e03a2db336ff886e89c8cf34885315", func := "loop.example/g00010/laws.FnExactConstants", spec := "fnExactConstants", apart := false }
def FnExactConstantsSaid : Prop := fnExactConstantsRow.holds Try.pinned (OpenSpec.ofChange fnExactConstantsSpec)

/-- ITS FALSE NEIGHBOUR: 'it returns false'. Refute it at one input. -/
def fnExactConstantsWrong : ChangeSpec := { name := "fnExactConstants", fn := fun _ => fun
  | [] => { results := [.lit (.bool false)], args := [] }
  | _ => none }
def FnExactConstantsWrongFalsely : Prop := fnExactConstantsRow.holds Try.pinned (OpenSpec.ofChange fnExactConstantsWrong)

/-- 'laws.FnExactFits': WHATEVER THE INPUT: true; the input reads as it did. -/
def fnExactFitsSpec : ChangeSpec := { name := "fnExactFits", fn := fun _ => fun
  | [d] => { results := [.lit (.bool true)], args := [d] }
  | _ => none }
def fnExactFitsRow : OpenClaim := { program := "ytnogjankhacdpaa", sum := "4a91fd4d8ed4601f8355b8c8d05672ff53e03a2db336ff886e89c8cf34885315", func := "loop.example/g00010/laws.FnExactFits", spec := "fnExactFits", apart := false }
def FnExactFitsSaid : Prop := fnExactFitsRow.holds Try.pinned (OpenSpec.ofChange fnExactFitsSpec)

/-- ITS FALSE NEIGHBOUR: 'it returns false'. Refute it at one input. -/
def fnExactFitsWrong : ChangeSpec := { name := "fnExactFits", fn := fun _ => fun
  | [d] => { results := [.lit (.bool false)], args := [d] }
  | _ => none }
def FnExactFitsWrongFalsely : Prop := fnExactFitsRow.holds Try.pinned (OpenSpec.ofChange fnExactFitsWrong)

/-- 'laws.FnExactIsEnd': WHATEVER THE INPUT: true; the input reads as it did. -/
def fnExactIsEndSpec : ChangeSpec := { name := "fnExactIsEnd", fn := fun _ => fun
  | [d] => { results := [.lit (.bool true)], args := [d] }
  | _ => none }
def fnExactIsEndRow : OpenClaim := { program := "ytnogjankhacdpaa", sum := "4a91fd4d8ed4601f8355b8c8d05672ff53e03a2db336ff886e89c8cf34885315", func := "loop.example/g00010/laws.FnExactIsEnd", spec := "fnExactIsEnd", apart := false }
def FnExactIsEndSaid : Prop := fnExactIsEndRow.holds Try.pinned (OpenSpec.ofChange fnExactIsEndSpec)

/-- ITS FALSE NEIGHBOUR: 'it returns false'. Refute it at one input. -/
def fnExactIsEndWrong : ChangeSpec := { name := "fnExactIsEnd", fn := fun _ => fun
  | [d] => { results := [.lit (.bool false)], args := [d] }
  | _ => none }
def FnExactIsEndWrongFalsely : Prop := fnExactIsEndRow.holds Try.pinned (OpenSpec.ofChange fnExactIsEndWrong)

/-- 'laws.FnExactResultOf': WHATEVER THE INPUT: true; the input reads as it did. -/
def fnExactResultOfSpec : ChangeSpec := { name := "fnExactResultOf", fn := fun _ => fun
  | [d1, d2, d3] => { results := [.lit (.bool true)], args := [d1, d2, d3] }
  | _ => none }
def fnExactResultOfRow : OpenClaim := { program := "ytnogjankhacdpaa", sum := "4a91fd4d8ed4601f8355b8c8d05672ff53e03a2db336ff886e89c8cf34885315", func := "loop.example/g00010/laws.FnExactResultOf", spec := "fnExactResultOf", apart := false }
def FnExactResultOfSaid : Prop := fnExactResultOfRow.holds Try.pinned (OpenSpec.ofChange fnExactResultOfSpec)

/-- ITS FALSE NEIGHBOUR: 'it returns false'. Refute it at one input. -/
def fnExactResultOfWrong : ChangeSpec := { name := "fnExactResultOf", fn := fun _ => fun
  | [d1, d2, d3] => { results := [.lit (.bool false)], args := [d1, d2, d3] }
  | _ => none }
def FnExactResultOfWrongFalsely : Prop := fnExactResultOfRow.holds Try.pinned (OpenSpec.ofChange fnExactResultOfWrong)

/-- 'laws.FnExactValidWidth': WHATEVER THE INPUT: true; the input reads as it did. -/
def fnExactValidWidthSpec : ChangeSpec := { name := "fnExactValidWidth", fn := fun _ => fun
  | [d] => { results := [.lit (.bool true)], args := [d] }
  | _ => none }
def fnExactValidWidthRow : OpenClaim := { program := "ytnogjankhacdpaa", sum := "4a91fd4d8ed4601f8355b8c8d05672ff53e03a2db336ff886e89c8cf34885315", func := "loop.example/g00010/laws.FnExactValidWidth", spec := "fnExactValidWidth", apart := false }
def FnExactValidWidthSaid : Prop := fnExactValidWidthRow.holds Try.pinned (OpenSpec.ofChange fnExactValidWidthSpec)

/-- ITS FALSE NEIGHBOUR: 'it returns false'. Refute it at one input. -/
def fnExactValidWidthWrong : ChangeSpec := { name := "fnExactValidWidth", fn := fun _ => fun
  | [d] => { results := [.lit (.bool false)], args := [d] }
  | _ => none }
def FnExactValidWidthWrongFalsely : Prop := fnExactValidWidthRow.holds Try.pinned (OpenSpec.ofChange fnExactValidWidthWrong)

/-- 'laws.FnExactValidType': WHATEVER THE INPUT: true; the input reads as it did. -/
def fnExactValidTypeSpec : ChangeSpec := { name := "fnExactValidType", fn := fun _ => fun
  | [d] => { results := [.lit (.bool true)], args := [d] }
  | _ => none }
def fnExactValidTypeRow : OpenClaim := { program := "ytnogjankhacdpaa", sum := "4a91fd4d8ed4601f8355b8c8d05672ff53e03a2db336ff886e89c8cf34885315", func := "loop.example/g00010/laws.FnExactValidType", spec := "fnExactValidType", apart := false }
def FnExactValidTypeSaid : Prop := fnExactValidTypeRow.holds Try.pinned (OpenSpec.ofChange fnExactValidTypeSpec)

/-- ITS FALSE NEIGHBOUR: 'it returns false'. Refute it at one input. -/
def fnExactValidTypeWrong : ChangeSpec := { name := "fnExactValidType", fn := fun _ => fun
  | [d] => { results := [.lit (.bool false)], args := [d] }
  | _ => none }
def FnExactValidTypeWrongFalsely : Prop := fnExactValidTypeRow.holds Try.pinned (OpenSpec.ofChange fnExactValidTypeWrong)

/-- 'laws.FnExactImageFault': WHATEVER THE INPUT: true; the input reads as it did. -/
def fnExactImageFaultSpec : ChangeSpec := { name := "fnExactImageFault", fn := fun _ => fun
  | [d] => { results := [.lit (.bool true)], args := [d] }
  | _ => none }
def fnExactImageFaultRow : OpenClaim := { program := "ytnogjankhacdpaa", sum := "4a91fd4d8ed4601f8355b8c8d05672ff53e03a2db336ff886e89c8cf34885315", func := "loop.example/g00010/laws.FnExactImageFault", spec := "fnExactImageFault", apart := false }
def FnExactImageFaultSaid : Prop := fnExactImageFaultRow.holds Try.pinned (OpenSpec.ofChange fnExactImageFaultSpec)

/-- ITS FALSE NEIGHBOUR: 'it returns false'. Refute it at one input. -/
def fnExactImageFaultWrong : ChangeSpec := { name := "fnExactImageFault", fn := fun _ => fun
  | [d] => { results := [.lit (.bool false)], args := [d] }
  | _ => none }
def FnExactImageFaultWrongFalsely : Prop := fnExactImageFaultRow.holds Try.pinned (OpenSpec.ofChange fnExactImageFaultWrong)

/-- 'laws.FnExactFlagsOf': WHATEVER THE INPUT: true; the input reads as it did. -/
def fnExactFlagsOfSpec : ChangeSpec := { name := "fnExactFlagsOf", fn := fun _ => fun
  | [d] => { results := [.lit (.bool true)], args := [d] }
  | _ => none }
def fnExactFlagsOfRow : OpenClaim := { program := "ytnogjankhacdpaa", sum := "4a91fd4d8ed4601f8355b8c8d05672ff53e03a2db336ff886e89c8cf34885315", func := "loop.example/g00010/laws.FnExactFlagsOf", spec := "fnExactFlagsOf", apart := false }
def FnExactFlagsOfSaid : Prop := fnExactFlagsOfRow.holds Try.pinned (OpenSpec.ofChange fnExactFlagsOfSpec)

/-- ITS FALSE NEIGHBOUR: 'it returns false'. Refute it at one input. -/
def fnExactFlagsOfWrong : ChangeSpec := { name := "fnExactFlagsOf", fn := fun _ => fun
  | [d] => { results := [.lit (.bool false)], args := [d] }
  | _ => none }
def FnExactFlagsOfWrongFalsely : Prop := fnExactFlagsOfRow.holds Try.pinned (OpenSpec.ofChange fnExactFlagsOfWrong)

/-- 'laws.FnExactSwapPred': WHATEVER THE INPUT: true; the input reads as it did. -/
def fnExactSwapPredSpec : ChangeSpec := { name := "fnExactSwapPred", fn := fun _ => fun
  | [d] => { results := [.lit (.bool true)], args := [d] }
  | _ => none }
def fnExactSwapPredRow : OpenClaim := { program := "ytnogjankhacdpaa", sum := "4a91fd4d8ed4601f8355b8c8d05672ff53e03a2db336ff886e89c8cf34885315", func := "loop.example/g00010/laws.FnExactSwapPred", spec := "fnExactSwapPred", apart := false }
def FnExactSwapPredSaid : Prop := fnExactSwapPredRow.holds Try.pinned (OpenSpec.ofChange fnExactSwapPredSpec)

/-- ITS FALSE NEIGHBOUR: 'it returns false'. Refute it at one input. -/
def fnExactSwapPredWrong : ChangeSpec := { name := "fnExactSwapPred", fn := fun _ => fun
  | [d] => { results := [.lit (.bool false)], args := [d] }
  | _ => none }
def FnExactSwapPredWrongFalsely : Prop := fnExactSwapPredRow.holds Try.pinned (OpenSpec.ofChange fnExactSwapPredWrong)

/-- 'laws.FnExactCut': WHATEVER THE INPUT: true; the input reads as it did. -/
def fnExactCutSpec : ChangeSpec := { name := "fnExactCut", fn := fun _ => fun
  | [d1, d2] => { results := [.lit (.bool true)], args := [d1, d2] }
  | _ => none }
def fnExactCutRow : OpenClaim := { program := "ytnogjankhacdpaa", sum := "4a91fd4d8ed4601f8355b8c8d05672ff53e03a2db336ff886e89c8cf34885315", func := "loop.example/g00010/laws.FnExactCut", spec := "fnExactCut", apart := false }
def FnExactCutSaid : Prop := fnExactCutRow.holds Try.pinned (OpenSpec.ofChange fnExactCutSpec)

/-- ITS FALSE NEIGHBOUR: 'it returns false'. Refute it at one input. -/
def fnExactCutWrong : ChangeSpec := { name := "fnExactCut", fn := fun _ => fun
  | [d1, d2] => { results := [.lit (.bool false)], args := [d1, d2] }
  | _ => none }
def FnExactCutWrongFalsely : Prop := fnExactCutRow.holds Try.pinned (OpenSpec.ofChange fnExactCutWrong)

/-- 'laws.FnExactSizeOf': WHATEVER THE INPUT: true; the input reads as it did. -/
def fnExactSizeOfSpec : ChangeSpec := { name := "fnExactSizeOf", fn := fun _ => fun
  | [d] => { results := [.lit (.bool true)], args := [d] }
  | _ => none }
def fnExactSizeOfRow : OpenClaim := { program := "ytnogjankhacdpaa", sum := "4a91fd4d8ed4601f8355b8c8d05672ff53e03a2db336ff886e89c8cf34885315", func := "loop.example/g00010/laws.FnExactSizeOf", spec := "fnExactSizeOf", apart := false }
def FnExactSizeOfSaid : Prop := fnExactSizeOfRow.holds Try.pinned (OpenSpec.ofChange fnExactSizeOfSpec)

/-- ITS FALSE NEIGHBOUR: 'it returns false'. Refute it at one input. -/
def fnExactSizeOfWrong : ChangeSpec := { name := "fnExactSizeOf", fn := fun _ => fun
  | [d] => { results := [.lit (.bool false)], args := [d] }
  | _ => none }
def FnExactSizeOfWrongFalsely : Prop := fnExactSizeOfRow.holds Try.pinned (OpenSpec.ofChange fnExactSizeOfWrong)

/- THE SECOND FORM. 'bulk': how many values and letters a reading holds, each counted each time it is reached (what is shared counts as often as it is met; a slice's spare places count too). A statement '..UptoSaid' is the law's where the arguments, and the package variables that the reading takes, are together of bulk at most 1048576: NARROWER than '..Said'. Prove '..Said' where nothing that the law and all that it calls make is longer than what came in: it says more and counts as full. Else prove '..UptoSaid'. A law counts once. -/
mutual
def uptoBulk {H : Type} : DataW H → Nat
  | .lit (.string bytes) => bytes.length + 1
  | .lit _ => 1
  | .nil => 1
  | .ptr d => uptoBulk d + 1
  | .slice elems spare => uptoBulkAll elems + uptoBulkAll spare + 1
  | .agg parts => uptoBulkAll parts + 1
  | .iface _ d => uptoBulk d + 1
  | .map entries => uptoBulkEntries entries + 1
  | .held _ => 1
def uptoBulkAll {H : Type} : List (DataW H) → Nat
  | [] => 0
  | d :: r => uptoBulk d + uptoBulkAll r
def uptoBulkEntries {H : Type} : List (Lit × DataW H) → Nat
  | [] => 0
  | x :: r => uptoBulkEntry x + uptoBulkEntries r
def uptoBulkEntry {H : Type} : Lit × DataW H → Nat
  | (.string bytes, d) => bytes.length + uptoBulk d + 1
  | (_, d) => uptoBulk d + 1
 end
def uptoSmall : (H : Type) → List (DataW H) → Bool := fun _ ds => decide (uptoBulkAll ds ≤ 1048576)
def OpenSpec.upto (s : _root_.Go.ChangeSpec) : _root_.Go.OpenSpec := { _root_.Go.OpenSpec.ofChange s with cond := some uptoSmall }

/-- 'laws.FnExactConstants', WHERE WHAT IT READS IS OF BULK AT MOST 1048576: true; the input reads as it did. -/
def fnExactConstantsUptoRow : OpenClaim := { program := "ytnogjankhacdpaa", sum := "4a91fd4d8ed4601f8355b8c8d05672ff53e03a2db336ff886e89c8cf34885315", func := "loop.example/g00010/laws.FnExactConstants", spec := "fnExactConstants", apart := false, narrowed := true }
def FnExactConstantsUptoSaid : Prop := fnExactConstantsUptoRow.holds Try.pinned (OpenSpec.upto fnExactConstantsSpec)

/-- 'laws.FnExactFits', WHERE WHAT IT READS IS OF BULK AT MOST 1048576: true; the input reads as it did. -/
def fnExactFitsUptoRow : OpenClaim := { program := "ytnogjankhacdpaa", sum := "4a91fd4d8ed4601f8355b8c8d05672ff53e03a2db336ff886e89c8cf34885315", func := "loop.example/g00010/laws.FnExactFits", spec := "fnExactFits", apart := false, narrowed := true }
def FnExactFitsUptoSaid : Prop := fnExactFitsUptoRow.holds Try.pinned (OpenSpec.upto fnExactFitsSpec)

/-- 'laws.FnExactIsEnd', WHERE WHAT IT READS IS OF BULK AT MOST 1048576: true; the input reads as it did. -/
def fnExactIsEndUptoRow : OpenClaim := { program := "ytnogjankhacdpaa", sum := "4a91fd4d8ed4601f8355b8c8d05672ff53e03a2db336ff886e89c8cf34885315", func := "loop.example/g00010/laws.FnExactIsEnd", spec := "fnExactIsEnd", apart := false, narrowed := true }
def FnExactIsEndUptoSaid : Prop := fnExactIsEndUptoRow.holds Try.pinned (OpenSpec.upto fnExactIsEndSpec)

/-- 'laws.FnExactResultOf', WHERE WHAT IT READS IS OF BULK AT MOST 1048576: true; the input reads as it did. -/
def fnExactResultOfUptoRow : OpenClaim := { program := "ytnogjankhacdpaa", sum := "4a91fd4d8ed4601f8355b8c8d05672ff53e03a2db336ff886e89c8cf34885315", func := "loop.example/g00010/laws.FnExactResultOf", spec := "fnExactResultOf", apart := false, narrowed := true }
def FnExactResultOfUptoSaid : Prop := fnExactResultOfUptoRow.holds Try.pinned (OpenSpec.upto fnExactResultOfSpec)

/-- 'laws.FnExactValidWidth', WHERE WHAT IT READS IS OF BULK AT MOST 1048576: true; the input reads as it did. -/
def fnExactValidWidthUptoRow : OpenClaim := { program := "ytnogjankhacdpaa", sum := "4a91fd4d8ed4601f8355b8c8d05672ff53e03a2db336ff886e89c8cf34885315", func := "loop.example/g00010/laws.FnExactValidWidth", spec := "fnExactValidWidth", apart := false, narrowed := true }
def FnExactValidWidthUptoSaid : Prop := fnExactValidWidthUptoRow.holds Try.pinned (OpenSpec.upto fnExactValidWidthSpec)

/-- 'laws.FnExactValidType', WHERE WHAT IT READS IS OF BULK AT MOST 1048576: true; the input reads as it did. -/
def fnExactValidTypeUptoRow : OpenClaim := { program := "ytnogjankhacdpaa", sum := "4a91fd4d8ed4601f8355b8c8d05672ff53e03a2db336ff886e89c8cf34885315", func := "loop.example/g00010/laws.FnExactValidType", spec := "fnExactValidType", apart := false, narrowed := true }
def FnExactValidTypeUptoSaid : Prop := fnExactValidTypeUptoRow.holds Try.pinned (OpenSpec.upto fnExactValidTypeSpec)

/-- 'laws.FnExactImageFault', WHERE WHAT IT READS IS OF BULK AT MOST 1048576: true; the input reads as it did. -/
def fnExactImageFaultUptoRow : OpenClaim := { program := "ytnogjankhacdpaa", sum := "4a91fd4d8ed4601f8355b8c8d05672ff53e03a2db336ff886e89c8cf34885315", func := "loop.example/g00010/laws.FnExactImageFault", spec := "fnExactImageFault", apart := false, narrowed := true }
def FnExactImageFaultUptoSaid : Prop := fnExactImageFaultUptoRow.holds Try.pinned (OpenSpec.upto fnExactImageFaultSpec)

/-- 'laws.FnExactFlagsOf', WHERE WHAT IT READS IS OF BULK AT MOST 1048576: true; the input reads as it did. -/
def fnExactFlagsOfUptoRow : OpenClaim := { program := "ytnogjankhacdpaa", sum := "4a91fd4d8ed4601f8355b8c8d05672ff53e03a2db336ff886e89c8cf34885315", func := "loop.example/g00010/laws.FnExactFlagsOf", spec := "fnExactFlagsOf", apart := false, narrowed := true }
def FnExactFlagsOfUptoSaid : Prop := fnExactFlagsOfUptoRow.holds Try.pinned (OpenSpec.upto fnExactFlagsOfSpec)

/-- 'laws.FnExactSwapPred', WHERE WHAT IT READS IS OF BULK AT MOST 1048576: true; the input reads as it did. -/
def fnExactSwapPredUptoRow : OpenClaim := { program := "ytnogjankhacdpaa", sum := "4a91fd4d8ed4601f8355b8c8d05672ff53e03a2db336ff886e89c8cf34885315", func := "loop.example/g00010/laws.FnExactSwapPred", spec := "fnExactSwapPred", apart := false, narrowed := true }
def FnExactSwapPredUptoSaid : Prop := fnExactSwapPredUptoRow.holds Try.pinned (OpenSpec.upto fnExactSwapPredSpec)

/-- 'laws.FnExactCut', WHERE WHAT IT READS IS OF BULK AT MOST 1048576: true; the input reads as it did. -/
def fnExactCutUptoRow : OpenClaim := { program := "ytnogjankhacdpaa", sum := "4a91fd4d8ed4601f8355b8c8d05672ff53e03a2db336ff886e89c8cf34885315", func := "loop.example/g00010/laws.FnExactCut", spec := "fnExactCut", apart := false, narrowed := true }
def FnExactCutUptoSaid : Prop := fnExactCutUptoRow.holds Try.pinned (OpenSpec.upto fnExactCutSpec)

/-- 'laws.FnExactSizeOf', WHERE WHAT IT READS IS OF BULK AT MOST 1048576: true; the input reads as it did. -/
def fnExactSizeOfUptoRow : OpenClaim := { program := "ytnogjankhacdpaa", sum := "4a91fd4d8ed4601f8355b8c8d05672ff53e03a2db336ff886e89c8cf34885315", func := "loop.example/g00010/laws.FnExactSizeOf", spec := "fnExactSizeOf", apart := false, narrowed := true }
def FnExactSizeOfUptoSaid : Prop := fnExactSizeOfUptoRow.holds Try.pinned (OpenSpec.upto fnExactSizeOfSpec)

end Rows
end Go.Proofs.Ytnogjankhacdpaa
