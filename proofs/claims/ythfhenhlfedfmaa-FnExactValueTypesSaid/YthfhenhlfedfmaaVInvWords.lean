-- chosen by prune.py, a program of this session, out of what the print laid for this claim: the words that it uses
import Derived.Test.YthfhenhlfedfmaaVInv
import Derived.Test.YthfhenhlfedfmaaVFootNe
namespace Go.Proofs.YthfhenhlfedfmaaW.PrintWords
open Go.RowKit
end Go.Proofs.YthfhenhlfedfmaaW.PrintWords
namespace Go.Proofs.YthfhenhlfedfmaaW.PrintLast
section
variable {ops : Array Oper} {a : Act} {o og : Oper} {g : Nat} {t : Tmp} {u : Bool}
end
end Go.Proofs.YthfhenhlfedfmaaW.PrintLast