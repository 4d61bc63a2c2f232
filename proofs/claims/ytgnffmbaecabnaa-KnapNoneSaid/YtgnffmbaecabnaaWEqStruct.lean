-- Printed by the kit's print.sh, then shortened by a program of this session's own (wip/slim.py): what no text of the claim names is struck. Lean checks it.
import Derived.Test.YtgnffmbaecabnaaWWords
import Derived.Laws.StructEq
namespace Go.Proofs.YtgnffmbaecabnaaW.PrintWords
open Go.RowKit
section
variable {P : Program} {d : Nat} {xs ys : Array Value} {f : Field} {fs : List Field} {a b : Value} {r s : Bool} {w : World}
end
end Go.Proofs.YtgnffmbaecabnaaW.PrintWords
