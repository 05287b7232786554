-- written by mp.py, a program of this session, over the translation; Lean checks it
import Derived.Test.YthfhenhlfedfmaaProg
import Derived.Below
import Derived.Deep.Draws
import Derived.Deep.AppendLies
import Derived.Maps.AppendAt
import Derived.OwnWalk
import Derived.Laws.BytesArg
import Derived.Laws.MakeOwn
import Derived.Laws.OwnMore
import Derived.Deep.OwnRows
import Derived.Tactics
import Derived.Lib.ConvBytes
import Derived.Laws.Slices
import Derived.WalkKit
import Derived.KernelRfl
import Derived.RowKit3
import Derived.Deep.LoopGhost
import Derived.Deep.QuietTactic
import Derived.BigQuiet
import Derived.WideLaws
import Derived.Deep.DeepCutAuto
import Derived.Deep.CutBlock
import Derived.Deep.RegionHeld3
import Derived.Laws.Rows
import Derived.Lib.AppendStr
import Derived.ArgAppend
import Derived.Laws.IdiomCopy
import Derived.OrdersHeld
import Derived.Laws.BitsLemmas
import Derived.RowKit
import Derived.Test.YthfhenhlfedfmaaWWords
import Derived.Test.YthfhenhlfedfmaaWLast
import Derived.Test.YthfhenhlfedfmaaWTab
import Derived.Test.YthfhenhlfedfmaaWFour
import Derived.Test.YthfhenhlfedfmaaWQPut
import Derived.Test.YthfhenhlfedfmaaWApart
import Derived.Test.YthfhenhlfedfmaaWArr
import Derived.Test.YthfhenhlfedfmaaWZeros
import Derived.Test.YthfhenhlfedfmaaWFoot
import Derived.Test.YthfhenhlfedfmaaWKept
import Derived.Test.YthfhenhlfedfmaaWShare
import Derived.Test.YthfhenhlfedfmaaWN
import Derived.Test.YthfhenhlfedfmaaWFootNe
import Derived.Test.YthfhenhlfedfmaaWAt
import Derived.Test.YthfhenhlfedfmaaWEqStruct
import Derived.Test.YthfhenhlfedfmaaWRepsOne
import Derived.Test.YthfhenhlfedfmaaWInv
import Derived.Test.YthfhenhlfedfmaaWInvWords
import Derived.Test.YthfhenhlfedfmaaWGuard
import Derived.Test.YthfhenhlfedfmaaWNEv
import Derived.Test.YthfhenhlfedfmaaWMore
namespace Go.Proofs.Ythfhenhlfedfmaa.QFnExactGetBits
open Go.RowKit Go.Proofs.YthfhenhlfedfmaaW.PrintWords Go.Proofs.YthfhenhlfedfmaaW.PrintLast Go.Proofs.YthfhenhlfedfmaaW.PrintMore
attribute [local go_sem] max2_int min2_int max_two min_two max_three min_three max_four min_four   -- for this text's walks alone
set_option linter.unusedVariables false
set_option linter.unusedSimpArgs false



def errW : Option Int → Value
  | none => .nilIface
  | some c => .iface 0 (.int .i64 c)
theorem errW_none : errW none = .nilIface := rfl
theorem errW_some (c : Int) : errW (some c) = .iface 0 (.int .i64 c) := rfl

theorem info5 : (Try.prog.info? 5).map (fun i => (i.zero, i.size, i.bytes)) = some (some (.int .u8 0), 1, 1) := by kernel_rfl
-- the values' own types

end Go.Proofs.Ythfhenhlfedfmaa.QFnExactGetBits
