-- chosen by prune.py, a program of this session, out of what the print laid for this claim: the words that it uses
import Derived.Test.YtcjdgimiobhhnaaVN
namespace Go.Proofs.YtcjdgimiobhhnaaW.PrintWords
open Go.RowKit
namespace Kd
section
variable {α : Type} {d : Kd α} {e base n cap g : Nat} {ok ok' okp : Nat → Prop} {w w1 W : World} {v v1 : Value} {xs ys : List α}
end
section
variable {P : Program} {ops : Array Oper} {rest : List Oper} {o : Oper} {a : Act} {Q : Exit → Act → World → Prop} {Kc : Act → World → Prop} {α : Type}
end
end Kd
end Go.Proofs.YtcjdgimiobhhnaaW.PrintWords