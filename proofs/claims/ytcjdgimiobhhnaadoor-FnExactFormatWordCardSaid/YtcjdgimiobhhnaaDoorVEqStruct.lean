-- chosen by prune.py, a program of this session, out of what the print laid for this claim: the words that it uses
import Derived.Test.YtcjdgimiobhhnaaDoorVWords
import Derived.Laws.StructEq
namespace Go.Proofs.YtcjdgimiobhhnaaDoorW.PrintWords
open Go.RowKit
section
variable {P : Program} {d : Nat} {xs ys : Array Value} {f : Field} {fs : List Field} {a b : Value} {r s : Bool} {w : World}
end
end Go.Proofs.YtcjdgimiobhhnaaDoorW.PrintWords