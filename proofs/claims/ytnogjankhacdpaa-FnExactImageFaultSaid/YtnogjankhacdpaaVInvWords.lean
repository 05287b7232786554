-- chosen by prune.py, a program of this session, out of what the print laid for this claim: the words that it uses
import Derived.Test.YtnogjankhacdpaaVInv
import Derived.Test.YtnogjankhacdpaaVFootNe
namespace Go.Proofs.YtnogjankhacdpaaW.PrintWords
open Go.RowKit
end Go.Proofs.YtnogjankhacdpaaW.PrintWords
namespace Go.Proofs.YtnogjankhacdpaaW.PrintLast
section
variable {ops : Array Oper} {a : Act} {o og : Oper} {g : Nat} {t : Tmp} {u : Bool}
end
end Go.Proofs.YtnogjankhacdpaaW.PrintLast