/-
  No cell of these rows narrows 'for every input' (looked for: loops, veiled, ifaces, maps, wideKeys, modest, calm, conditions, laid).
  DERIVED. THE GIVEN ROWS OF THIS SEAT. 3 by the template 'for every input the law returns true; each argument reads behind the call as it read before'; 0 by the template 'total and deterministic' (their statements: YtgnffmbaecabnaaTotals.lean).
  GIVEN WITH THE SEED: the statements are not yours to turn. If you find one false, say at which input.
  Laid BY PROGRAM, IN A SANDBOX (cutbox-rows.mjs): the forced cells as the released guide's own fill.sh prints them over the translation 7ecd017700e23869… (all of the seat's roots in one cut). By AI agents, Wed Nov 11 2026. No macro, syntax, notation, axiom, sorry.
-/
import Derived.Test.YtgnffmbaecabnaaChecked
import GoSem.Claim
import GoSem.ClaimJoined
import GoSem.ClaimMapViews
import Derived.JoinedTies
import Derived.KernelRfl
namespace Go.Proofs.Ytgnffmbaecabnaa
/- THE CELL 'sum', in the pinned program and in every row, IS THE sha256 OF THE DUMP (.gsa) THAT YtgnffmbaecabnaaProg.lean LOADS. Nothing in Lean hashes anything: it is a label: what it is worth is what the hold of that sum in a sandbox is worth. -/
noncomputable def Try.pinned : Pinned := { name := "ytgnffmbaecabnaa", sum := "7ecd017700e23869702d478bccc5d5029c4f72d76b6da92bb733b5b17869c527", checked := Try.checked }
namespace Rows
def none {H : Type} : Left H := { results := [], args := [] }

/-- 'offcutlaw16.KnapWider': WHATEVER THE INPUT: true; the input reads as it did. -/
def knapWiderSpec : ChangeSpec := { name := "knapWider", fn := fun _ => fun
  | [d1, d2, d3, d4] => { results := [.lit (.bool true)], args := [d1, d2, d3, d4] }
  | _ => none }
def knapWiderRow : OpenClaim := { program := "ytgnffmbaecabnaa", sum := "7ecd017700e23869702d478bccc5d5029c4f72d76b6da92bb733b5b17869c527", func := "offcut/offcutlaw16.KnapWider", spec := "knapWider", unfollowed := true, recurses := true, apart := false }
def KnapWiderSaid : Prop := knapWiderRow.holds Try.pinned (OpenSpec.ofChange knapWiderSpec)

/-- ITS FALSE NEIGHBOUR: 'it returns false'. Refute it at one input. -/
def knapWiderWrong : ChangeSpec := { name := "knapWider", fn := fun _ => fun
  | [d1, d2, d3, d4] => { results := [.lit (.bool false)], args := [d1, d2, d3, d4] }
  | _ => none }
def KnapWiderWrongFalsely : Prop := knapWiderRow.holds Try.pinned (OpenSpec.ofChange knapWiderWrong)

/-- 'offcutlaw16.KnapMany': WHATEVER THE INPUT: true; the input reads as it did. -/
def knapManySpec : ChangeSpec := { name := "knapMany", fn := fun _ => fun
  | [d1, d2] => { results := [.lit (.bool true)], args := [d1, d2] }
  | _ => none }
def knapManyRow : OpenClaim := { program := "ytgnffmbaecabnaa", sum := "7ecd017700e23869702d478bccc5d5029c4f72d76b6da92bb733b5b17869c527", func := "offcut/offcutlaw16.KnapMany", spec := "knapMany", unfollowed := true, recurses := true, apart := false }
def KnapManySaid : Prop := knapManyRow.holds Try.pinned (OpenSpec.ofChange knapManySpec)

/-- ITS FALSE NEIGHBOUR: 'it returns false'. Refute it at one input. -/
def knapManyWrong : ChangeSpec := { name := "knapMany", fn := fun _ => fun
  | [d1, d2] => { results := [.lit (.bool false)], args := [d1, d2] }
  | _ => none }
def KnapManyWrongFalsely : Prop := knapManyRow.holds Try.pinned (OpenSpec.ofChange knapManyWrong)

/-- 'offcutlaw16.KnapNone': WHATEVER THE INPUT: true; the input reads as it did. -/
def knapNoneSpec : ChangeSpec := { name := "knapNone", fn := fun _ => fun
  | [d1, d2, d3] => { results := [.lit (.bool true)], args := [d1, d2, d3] }
  | _ => none }
def knapNoneRow : OpenClaim := { program := "ytgnffmbaecabnaa", sum := "7ecd017700e23869702d478bccc5d5029c4f72d76b6da92bb733b5b17869c527", func := "offcut/offcutlaw16.KnapNone", spec := "knapNone", unfollowed := true, recurses := true, apart := false }
def KnapNoneSaid : Prop := knapNoneRow.holds Try.pinned (OpenSpec.ofChange knapNoneSpec)

/-- ITS FALSE NEIGHBOUR: 'it returns false'. Refute it at one input. -/
def knapNoneWrong : ChangeSpec := { name := "knapNone", fn := fun _ => fun
  | [d1, d2, d3] => { results := [.lit (.bool false)], args := [d1, d2, d3] }
  | _ => none }
def KnapNoneWrongFalsely : Prop := knapNoneRow.holds Try.pinned (OpenSpec.ofChange knapNoneWrong)

/- THE SECOND FORM. 'bulk': how many values and letters a reading holds, each counted each time it is reached (what is shared counts as often as it is met; a slice's spare places count too). A statement '..UptoSaid' is the law's where the arguments, and the package variables that the reading takes, are together of bulk at most 1048576: NARROWER than '..Said'. Prove '..Said' where nothing that the law and all that it calls make is longer than what came in: it says more and counts as full. Else prove '..UptoSaid'. A law counts once. -/
mutual
def uptoBulk {H : Type} : DataW H → Nat
  | .lit (.string bytes) => bytes.length + 1
  | .lit _ => 1
  | .nil => 1
  | .ptr d => uptoBulk d + 1
  | .slice elems spare => uptoBulkAll elems + uptoBulkAll spare + 1
  | .agg parts => uptoBulkAll parts + 1
  | .iface _ d => uptoBulk d + 1
  | .map entries => uptoBulkEntries entries + 1
  | .held _ => 1
def uptoBulkAll {H : Type} : List (DataW H) → Nat
  | [] => 0
  | d :: r => uptoBulk d + uptoBulkAll r
def uptoBulkEntries {H : Type} : List (Lit × DataW H) → Nat
  | [] => 0
  | x :: r => uptoBulkEntry x + uptoBulkEntries r
def uptoBulkEntry {H : Type} : Lit × DataW H → Nat
  | (.string bytes, d) => bytes.length + uptoBulk d + 1
  | (_, d) => uptoBulk d + 1
 end
def uptoSmall : (H : Type) → List (DataW H) → Bool := fun _ ds => decide (uptoBulkAll ds ≤ 1048576)
def OpenSpec.upto (s : _root_.Go.ChangeSpec) : _root_.Go.OpenSpec := { _root_.Go.OpenSpec.ofChange s with cond := some uptoSmall }

/-- 'offcutlaw16.KnapWider', WHERE WHAT IT READS IS OF BULK AT MOST 1048576: true; the input reads as it did. -/
def knapWiderUptoRow : OpenClaim := { program := "ytgnffmbaecabnaa", sum := "7ecd017700e23869702d478bccc5d5029c4f72d76b6da92bb733b5b17869c527", func := "offcut/offcutlaw16.KnapWider", spec := "knapWider", unfollowed := true, recurses := true, apart := false, narrowed := true }
def KnapWiderUptoSaid : Prop := knapWiderUptoRow.holds Try.pinned (OpenSpec.upto knapWiderSpec)

/-- 'offcutlaw16.KnapMany', WHERE WHAT IT READS IS OF BULK AT MOST 1048576: true; the input reads as it did. -/
def knapManyUptoRow : OpenClaim := { program := "ytgnffmbaecabnaa", sum := "7ecd017700e23869702d478bccc5d5029c4f72d76b6da92bb733b5b17869c527", func := "offcut/offcutlaw16.KnapMany", spec := "knapMany", unfollowed := true, recurses := true, apart := false, narrowed := true }
def KnapManyUptoSaid : Prop := knapManyUptoRow.holds Try.pinned (OpenSpec.upto knapManySpec)

/-- 'offcutlaw16.KnapNone', WHERE WHAT IT READS IS OF BULK AT MOST 1048576: true; the input reads as it did. -/
def knapNoneUptoRow : OpenClaim := { program := "ytgnffmbaecabnaa", sum := "7ecd017700e23869702d478bccc5d5029c4f72d76b6da92bb733b5b17869c527", func := "offcut/offcutlaw16.KnapNone", spec := "knapNone", unfollowed := true, recurses := true, apart := false, narrowed := true }
def KnapNoneUptoSaid : Prop := knapNoneUptoRow.holds Try.pinned (OpenSpec.upto knapNoneSpec)

end Rows
end Go.Proofs.Ytgnffmbaecabnaa
