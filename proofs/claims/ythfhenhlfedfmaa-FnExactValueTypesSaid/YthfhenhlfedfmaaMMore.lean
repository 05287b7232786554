-- the print's words, what YthfhenhlfedfmaaV of them lacks; chosen by miss.py
import Derived.Test.YthfhenhlfedfmaaVWords
import Derived.Test.YthfhenhlfedfmaaVLast
import Derived.Test.YthfhenhlfedfmaaVQPut
import Derived.Test.YthfhenhlfedfmaaVApart
import Derived.Test.YthfhenhlfedfmaaVZeros
import Derived.Test.YthfhenhlfedfmaaVFoot
import Derived.Test.YthfhenhlfedfmaaVKept
import Derived.Test.YthfhenhlfedfmaaVNEv
import Derived.Test.YthfhenhlfedfmaaVMore
import Derived.Test.YthfhenhlfedfmaaMWords
import Derived.Test.YthfhenhlfedfmaaMKept
import Derived.Test.YthfhenhlfedfmaaMShare
namespace Go.Proofs.YthfhenhlfedfmaaW.PrintMore
open Go.RowKit Go.Proofs.YthfhenhlfedfmaaW.PrintWords
namespace Kd
open Go.Proofs.YthfhenhlfedfmaaW.PrintWords.Kd
end Kd
namespace Kd
open Go.Proofs.YthfhenhlfedfmaaW.PrintWords.Kd
section
variable {α : Type} {d : Kd α} {e base g N : Nat} {ok : Nat → Prop} {W w1 : World} {u v : Value} {xs : List α}
end
end Kd
end Go.Proofs.YthfhenhlfedfmaaW.PrintMore
namespace Go.Proofs.YthfhenhlfedfmaaW.PrintWords
open Go.RowKit
section
variable {P : Program} {ops : Array Oper} {rest : List Oper} {o : Oper} {a : Act} {Q : Exit → Act → World → Prop} {W : World}
end
namespace Kd
section
variable {α : Type} {d : Kd α} {e base : Nat} {ok : Nat → Prop} {W w1 : World} {v : Value} {xs : List α}
end
section
variable {α : Type} {d : Kd α} {e base g n cap : Nat} {ok oki okp : Nat → Prop} {W : World} {xs : List α} {i : Int} {c : List Value}
end
section
variable {α : Type} {d : Kd α} {e base b b' g N : Nat} {ok ok1 : Nat → Prop} {W W2 w1 : World} {u v : Value} {xs ys : List α} {S : Nat → Prop}
theorem R_reok (hE : d.E = []) (h : d.R e W base ok1 v xs) (hok : ∀ k, v.ownBlock = some k → ok k) : d.R e W base ok v xs := R_mono (R_tight hE h) (fun k hk => hok k hk.symm)
theorem R_keptB (h : d.R e W base ok v xs) (hk : Kept W W2 S) (hne : ∀ k, ok k → ¬ S k) : d.R e W2 base (fun k => ok k ∧ (¬ S k ∧ k < W.heap.size)) v xs :=
  R_kept (R_mono (R_bound h) (fun k hk => ⟨hk.1, hne k hk.1, hk.2.2.1⟩)) hk (fun _ hk => hk.2.1)
end
end Kd
end Go.Proofs.YthfhenhlfedfmaaW.PrintWords
namespace Go.Proofs.YthfhenhlfedfmaaW.PrintWords
open Go.RowKit
namespace Kd
section
variable {α β : Type} {d : Kd α} {e base base' n m c g N' lo hi : Nat} {ok ok' S : Nat → Prop} {w W w1 : World} {A : Option Addr} {ad : Addr} {u v v1 : Value} {xs : List α}
end
end Kd
end Go.Proofs.YthfhenhlfedfmaaW.PrintWords
