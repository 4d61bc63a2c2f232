-- Printed by the kit's print.sh, then shortened by a program of this session's own (wip/slim.py): what no text of the claim names is struck. Lean checks it.
import Derived.Test.YtgnffmbaecabnaaWN
namespace Go.Proofs.YtgnffmbaecabnaaW.PrintWords
open Go.RowKit
namespace Kd
section
variable {α : Type} {d : Kd α} {W : World} {g n : Nat} {S ok : Nat → Prop} {A : Option Addr} {ad : Addr} {xs : List α}
end
end Kd
end Go.Proofs.YtgnffmbaecabnaaW.PrintWords
