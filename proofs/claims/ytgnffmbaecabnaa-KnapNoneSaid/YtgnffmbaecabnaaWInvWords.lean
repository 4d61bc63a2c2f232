-- Printed by the kit's print.sh, then shortened by a program of this session's own (wip/slim.py): what no text of the claim names is struck. Lean checks it.
import Derived.Test.YtgnffmbaecabnaaWInv
import Derived.Test.YtgnffmbaecabnaaWFootNe
namespace Go.Proofs.YtgnffmbaecabnaaW.PrintWords
open Go.RowKit
end Go.Proofs.YtgnffmbaecabnaaW.PrintWords
namespace Go.Proofs.YtgnffmbaecabnaaW.PrintLast
section
variable {ops : Array Oper} {a : Act} {o og : Oper} {g : Nat} {t : Tmp} {u : Bool}
end
end Go.Proofs.YtgnffmbaecabnaaW.PrintLast
