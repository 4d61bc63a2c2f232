-- Printed by the kit's print.sh, then shortened by a program of this session's own (wip/slim.py): what no text of the claim names is struck. Lean checks it.
import Derived.Test.YtgnffmbaecabnaaWFootNe
namespace Go.Proofs.YtgnffmbaecabnaaW.PrintWords
open Go.RowKit
section
variable {w w' u : World} {m B g : Nat} {o : Obj} {row : Option Nat} {S : Nat → Prop} {a : Addr} {v : Value}
end
namespace Kd
section
variable {α : Type} {d : Kd α} {e base n m : Nat} {ok : Nat → Prop} {w w' : World} {v : Value} {A : Option Addr} {xs : List α}
end
end Kd
end Go.Proofs.YtgnffmbaecabnaaW.PrintWords
