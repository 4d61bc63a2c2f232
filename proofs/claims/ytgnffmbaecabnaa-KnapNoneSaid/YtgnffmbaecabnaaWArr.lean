-- Printed by the kit's print.sh, then shortened by a program of this session's own (wip/slim.py): what no text of the claim names is struck. Lean checks it.
import Derived.Test.YtgnffmbaecabnaaWWords
namespace Go.Proofs.YtgnffmbaecabnaaW.PrintWords
open Go.RowKit
namespace Kd
section
variable {α : Type} {n : Nat} {d : Kd α} {hs : 0 < d.sz} {w : World} {base : Nat} {ok : Nat → Prop} {xs : List α} {cs : List Value}
end
section
variable {α : Type} {n : Nat} {enc : α → Value} {h1 : ∀ x, (enc x).oneCell' = true} {hs : 0 < (scalar enc h1).sz} {w : World} {base : Nat} {ok : Nat → Prop} {xs : List α} {cs : List Value}
end
end Kd
end Go.Proofs.YtgnffmbaecabnaaW.PrintWords
