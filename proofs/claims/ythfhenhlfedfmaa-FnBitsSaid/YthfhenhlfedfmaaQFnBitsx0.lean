-- written by mp.py, a program of this session, over the translation; Lean checks it
import Derived.Test.YthfhenhlfedfmaaProg
import Derived.Below
import Derived.Deep.Draws
import Derived.Deep.AppendLies
import Derived.Maps.AppendAt
import Derived.OwnWalk
import Derived.Laws.BytesArg
import Derived.Laws.MakeOwn
import Derived.Laws.OwnMore
import Derived.Deep.OwnRows
import Derived.Tactics
import Derived.Lib.ConvBytes
import Derived.Laws.Slices
import Derived.WalkKit
import Derived.KernelRfl
import Derived.RowKit3
import Derived.Deep.LoopGhost
import Derived.Deep.QuietTactic
import Derived.BigQuiet
import Derived.WideLaws
import Derived.Deep.DeepCutAuto
import Derived.Deep.CutBlock
import Derived.Deep.RegionHeld3
import Derived.Laws.Rows
import Derived.Lib.AppendStr
import Derived.ArgAppend
import Derived.Laws.IdiomCopy
import Derived.OrdersHeld
import Derived.Laws.BitsLemmas
import Derived.RowKit
import Derived.StillTailTactics
import Derived.Test.YthfhenhlfedfmaaVWords
import Derived.Test.YthfhenhlfedfmaaVLast
import Derived.Test.YthfhenhlfedfmaaVTab
import Derived.Test.YthfhenhlfedfmaaVFour
import Derived.Test.YthfhenhlfedfmaaVQPut
import Derived.Test.YthfhenhlfedfmaaVApart
import Derived.Test.YthfhenhlfedfmaaVArr
import Derived.Test.YthfhenhlfedfmaaVZeros
import Derived.Test.YthfhenhlfedfmaaVFoot
import Derived.Test.YthfhenhlfedfmaaVKept
import Derived.Test.YthfhenhlfedfmaaVShare
import Derived.Test.YthfhenhlfedfmaaVN
import Derived.Test.YthfhenhlfedfmaaVFootNe
import Derived.Test.YthfhenhlfedfmaaVAt
import Derived.Test.YthfhenhlfedfmaaVEqStruct
import Derived.Test.YthfhenhlfedfmaaVRepsOne
import Derived.Test.YthfhenhlfedfmaaVInv
import Derived.Test.YthfhenhlfedfmaaVInvWords
import Derived.Test.YthfhenhlfedfmaaVGuard
import Derived.Test.YthfhenhlfedfmaaVNEv
import Derived.Test.YthfhenhlfedfmaaVMore
namespace Go.Proofs.Ythfhenhlfedfmaa.QFnBits
open Go.RowKit Go.Proofs.YthfhenhlfedfmaaW.PrintWords Go.Proofs.YthfhenhlfedfmaaW.PrintLast Go.Proofs.YthfhenhlfedfmaaW.PrintMore
attribute [local go_sem] max2_int min2_int max_two min_two max_three min_three max_four min_four   -- for this text's walks alone
set_option linter.unusedVariables false
set_option linter.unusedSimpArgs false



def errW : Option Int → Value
  | none => .nilIface
  | some c => .iface 0 (.int .i64 c)
theorem errW_none : errW none = .nilIface := rfl
theorem errW_some (c : Int) : errW (some c) = .iface 0 (.int .i64 c) := rfl

theorem info2 : (Try.prog.info? 2).map (fun i => (i.zero, i.size, i.bytes)) = some (some (.int .i64 0), 1, 8) := by kernel_rfl
theorem info5 : (Try.prog.info? 5).map (fun i => (i.zero, i.size, i.bytes)) = some (some (.int .u8 0), 1, 1) := by kernel_rfl
theorem info38 : (Try.prog.info? 38).map (fun i => (i.zero, i.size, i.bytes)) = some (some (.int .u64 0), 1, 8) := by kernel_rfl
-- the values' own types

end Go.Proofs.Ythfhenhlfedfmaa.QFnBits
