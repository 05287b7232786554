-- chosen by prune.py, a program of this session, out of what the print laid for this claim: the words that it uses
import Derived.Test.YtcjdgimiobhhnaaDoorVInv
import Derived.Test.YtcjdgimiobhhnaaDoorVFootNe
namespace Go.Proofs.YtcjdgimiobhhnaaDoorW.PrintWords
open Go.RowKit
end Go.Proofs.YtcjdgimiobhhnaaDoorW.PrintWords
namespace Go.Proofs.YtcjdgimiobhhnaaDoorW.PrintLast
section
variable {ops : Array Oper} {a : Act} {o og : Oper} {g : Nat} {t : Tmp} {u : Bool}
end
end Go.Proofs.YtcjdgimiobhhnaaDoorW.PrintLast