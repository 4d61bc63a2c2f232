-- Printed by the kit's print.sh, then shortened by a program of this session's own (wip/slim.py): what no text of the claim names is struck. Lean checks it.
import Derived.Test.YtgnffmbaecabnaaWTab
namespace Go.Proofs.YtgnffmbaecabnaaW.PrintLast
section
variable {P : Program} {ops : Array Oper} {Q : Exit → Act → World → Prop} {md : Region.Mode} {S : World → Prop} {ds : List Nat} {T : Bool × List (List Nat × List Nat)}
end
end Go.Proofs.YtgnffmbaecabnaaW.PrintLast
