-- chosen by prune.py, a program of this session, out of what the print laid for this claim: the words that it uses
import Derived.Test.YtcjdgimiobhhnaaVInv
import Derived.Test.YtcjdgimiobhhnaaVFootNe
namespace Go.Proofs.YtcjdgimiobhhnaaW.PrintWords
open Go.RowKit
end Go.Proofs.YtcjdgimiobhhnaaW.PrintWords
namespace Go.Proofs.YtcjdgimiobhhnaaW.PrintLast
section
variable {ops : Array Oper} {a : Act} {o og : Oper} {g : Nat} {t : Tmp} {u : Bool}
end
end Go.Proofs.YtcjdgimiobhhnaaW.PrintLast