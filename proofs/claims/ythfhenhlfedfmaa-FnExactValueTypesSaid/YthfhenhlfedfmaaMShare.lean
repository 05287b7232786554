-- the print's words, what YthfhenhlfedfmaaV of them lacks; chosen by miss.py
import Derived.Test.YthfhenhlfedfmaaVKept
import Derived.Test.YthfhenhlfedfmaaVShare
import Derived.Test.YthfhenhlfedfmaaMWords
import Derived.Test.YthfhenhlfedfmaaMKept
namespace Go.Proofs.YthfhenhlfedfmaaW.PrintWords
open Go.RowKit
namespace Foot
variable {P Q : World → Prop} {W W1 : World} {ok ok' : Nat → Prop}
theorem bound (h : Foot P W ok) : Foot P W (fun k => ok k ∧ k < W.heap.size) := fun W' hW => h W' (fun k hk hlt => hW k ⟨hk, hlt⟩ hlt)
theorem old (h : Foot P W ok) (hb : Below W.heap.size W W1) : Foot P W1 (fun k => ok k ∧ k < W.heap.size) := (h.bound).step (fun k _ hlt => hb.block k hlt)
end Foot
namespace Kd
section
variable {α β : Type} {d : Kd α} {e base n n' cc g N : Nat} {ok ok' okp S : Nat → Prop} {w w0 w1 W W1 : World} {A A' : Option Addr} {u v v1 : Value} {xs : List α} {xs' : List β} {d' : Kd β} {x : α} {c : List Value}
end
end Kd
end Go.Proofs.YthfhenhlfedfmaaW.PrintWords
