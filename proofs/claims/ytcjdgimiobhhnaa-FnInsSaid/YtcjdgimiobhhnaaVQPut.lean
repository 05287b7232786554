-- chosen by prune.py, a program of this session, out of what the print laid for this claim: the words that it uses
import Derived.Test.YtcjdgimiobhhnaaVWords
import Derived.Test.YtcjdgimiobhhnaaVLast
namespace Go.Proofs.YtcjdgimiobhhnaaW.PrintWords
open Go.RowKit
namespace Kd
section
variable {α : Type} {d : Kd α} {e base g o n cap : Nat} {ok okp : Nat → Prop} {w W : World} {v : Value} {xs : List α}
end
section
variable {α : Type} {enc : α → Value} {h1 : ∀ x, (enc x).oneCell' = true} {e base g o n cap : Nat} {ok : Nat → Prop} {W : World} {xs : List α}
end
end Kd
end Go.Proofs.YtcjdgimiobhhnaaW.PrintWords