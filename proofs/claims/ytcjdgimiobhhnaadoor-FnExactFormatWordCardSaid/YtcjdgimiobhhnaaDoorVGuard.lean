-- chosen by prune.py, a program of this session, out of what the print laid for this claim: the words that it uses
import Derived.Test.YtcjdgimiobhhnaaDoorVWords
namespace Go.Proofs.YtcjdgimiobhhnaaDoorW.PrintWords
open Go.RowKit
section
variable {P : Program} {ops : Array Oper} {rest : List Oper} {o : Oper} {a : Act} {Q : Exit → Act → World → Prop} {W : World}
end
end Go.Proofs.YtcjdgimiobhhnaaDoorW.PrintWords