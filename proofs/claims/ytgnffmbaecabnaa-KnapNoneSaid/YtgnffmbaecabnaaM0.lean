-- Printed by a program of this session's own (wip/myprint.py), out of the kit's print with functions given by hand. Lean checks it.
import Derived.Test.YtgnffmbaecabnaaProg
import Derived.Below
import Derived.Deep.Draws
import Derived.Deep.AppendLies
import Derived.Maps.AppendAt
import Derived.OwnWalk
import Derived.Laws.BytesArg
import Derived.Laws.MakeOwn
import Derived.Laws.OwnMore
import Derived.Deep.OwnRows
import Derived.Tactics
import Derived.Lib.ConvBytes
import Derived.Laws.Slices
import Derived.WalkKit
import Derived.KernelRfl
import Derived.RowKit3
import Derived.Deep.LoopGhost
import Derived.Deep.QuietTactic
import Derived.BigQuiet
import Derived.WideLaws
import Derived.Deep.DeepCutAuto
import Derived.Deep.CutBlock
import Derived.Deep.RegionHeld3
import Derived.Laws.Rows
import Derived.Lib.AppendStr
import Derived.ArgAppend
import Derived.Laws.IdiomCopy
import Derived.OrdersHeld
import Derived.Laws.BitsLemmas
import Derived.RowKit
import Derived.Lib.Walk
import Derived.Lib.SliceRun
import Derived.RangeFuncBox
import Derived.RangeFuncLeaves
import Derived.RangeFuncNested
import Derived.RangeFuncBound
import Derived.RangeFuncCalls
import Derived.Shelf.Abstract
import Derived.Shelf.RegionOpen
import Derived.OwnWalkIn
import Derived.TacticsInMore
import Derived.LoopNIn
import Derived.LoopIn
import Derived.Deep.AppendLies
import Derived.Test.YtgnffmbaecabnaaWWords
import Derived.Test.YtgnffmbaecabnaaWLast
import Derived.Test.YtgnffmbaecabnaaWTab
import Derived.Test.YtgnffmbaecabnaaWFour
import Derived.Test.YtgnffmbaecabnaaWQPut
import Derived.Test.YtgnffmbaecabnaaWApart
import Derived.Test.YtgnffmbaecabnaaWArr
import Derived.Test.YtgnffmbaecabnaaWZeros
import Derived.Test.YtgnffmbaecabnaaWFoot
import Derived.Test.YtgnffmbaecabnaaWKept
import Derived.Test.YtgnffmbaecabnaaWShare
import Derived.Test.YtgnffmbaecabnaaWN
import Derived.Test.YtgnffmbaecabnaaWFootNe
import Derived.Test.YtgnffmbaecabnaaWAt
import Derived.Test.YtgnffmbaecabnaaWEqStruct
import Derived.Test.YtgnffmbaecabnaaWRepsOne
import Derived.Test.YtgnffmbaecabnaaWInv
import Derived.Test.YtgnffmbaecabnaaWInvWords
import Derived.Test.YtgnffmbaecabnaaWGuard
import Derived.Test.YtgnffmbaecabnaaWNEv
import Derived.Test.YtgnffmbaecabnaaWMore
namespace Go.Proofs.Ytgnffmbaecabnaa.M
open Go.RowKit Go.Shelf Go.Proofs.YtgnffmbaecabnaaW.PrintWords Go.Proofs.YtgnffmbaecabnaaW.PrintLast Go.Proofs.YtgnffmbaecabnaaW.PrintMore
attribute [local go_sem] z33q z31q max_two min_two z28q z27q z32q z30q   -- for this text's walks alone
set_option linter.unusedVariables false
set_option linter.unusedSimpArgs false
def errW : Option Int → Value
  | none => .nilIface
  | some c => .iface 0 (.int .i64 c)
theorem z14q : errW none = .nilIface := rfl
theorem z13q (c : Int) : errW (some c) = .iface 0 (.int .i64 c) := rfl
theorem info5 : (Try.prog.info? 5).map (fun i => (i.zero, i.size, i.bytes)) = some (some (.int .u8 0), 1, 1) := by kernel_rfl
theorem info39 : (Try.prog.info? 39).map (fun i => (i.zero, i.size, i.bytes)) = some (some (.agg #[(.bool false), (.slice none 0 0), (.slice none 0 0)]), 3, 56) := by kernel_rfl
theorem info96 : (Try.prog.info? 96).map (fun i => (i.zero, i.size, i.bytes)) = some (some (.int .u32 0), 1, 4) := by kernel_rfl
structure S37 where
  f0 : Bool
  f1 : (List Int)
def z37 : S37 := ⟨false, ([] : List Int)⟩
def k37 : Kd S37 := Kd.iso (Kd.pair Kd.bool (Kd.slice 96 (Kd.int .u32))) (fun x : S37 => (x.f0, x.f1))
theorem k37_open {w : World} {x : S37} {cs : List Value} (h : k37.K w x cs) : ∃ A1 c1, cs = [.bool x.f0, .slice A1 x.f1.length c1] ∧ x.f1.length ≤ c1 ∧ (Kd.int .u32).C w A1 x.f1.length x.f1 := by
  obtain ⟨_, _, rfl, rfl, ⟨A1, c1, rfl, l1, g1⟩⟩ := h
  exact ⟨A1, c1, rfl, l1, g1⟩
theorem k37_mkM (w : World) (base : Nat) (ok : Nat → Prop) (x : S37) {v1 : Value} (g1 : (Kd.int .u32).R 96 w base ok v1 x.f1) : k37.M w base ok x [.bool x.f0, v1] := ⟨[.bool x.f0], [v1], rfl, rfl, ⟨v1, rfl, g1⟩⟩
structure S39 where
  f0 : S37
  f1 : (List Int)
def z39 : S39 := ⟨z37, ([] : List Int)⟩
def k39 : Kd S39 := Kd.iso (Kd.pair k37 (Kd.slice 96 (Kd.int .u32))) (fun x : S39 => (x.f0, x.f1))
theorem k39_open {w : World} {x : S39} {cs : List Value} (h : k39.K w x cs) : ∃ A1 c1 A2 c2, cs = [.bool x.f0.f0, .slice A1 x.f0.f1.length c1, .slice A2 x.f1.length c2] ∧ x.f0.f1.length ≤ c1 ∧ (Kd.int .u32).C w A1 x.f0.f1.length x.f0.f1 ∧ x.f1.length ≤ c2 ∧ (Kd.int .u32).C w A2 x.f1.length x.f1 := by
  obtain ⟨_, _, rfl, s0, ⟨A2, c2, rfl, l2, g2⟩⟩ := h
  obtain ⟨A1, c1, rfl, l1, g1⟩ := k37_open s0
  exact ⟨A1, c1, A2, c2, rfl, l1, g1, l2, g2⟩
theorem k39_mkM (w : World) (base : Nat) (ok : Nat → Prop) (x : S39) {v1 : Value} (g1 : (Kd.int .u32).R 96 w base ok v1 x.f0.f1) {v2 : Value} (g2 : (Kd.int .u32).R 96 w base ok v2 x.f1) : k39.M w base ok x [.bool x.f0.f0, v1, v2] := ⟨[.bool x.f0.f0, v1], [v2], rfl, (k37_mkM w base ok x.f0 g1), ⟨v2, rfl, g2⟩⟩
def rd_T39 (xs : List S39) (i : Int) : S39 := xs.getD i.toNat z39
theorem at_T39 {w : World} {A : Option Addr} {n : Nat} {xs : List S39} (h : Kd.C k39 w A n xs) (i : Int) (h0 : 0 ≤ i) (h1 : i < n) : ∃ ad A1 c1 A2 c2, A = some ad ∧ w.cell? (ad.add (i.toNat * 3)) = some (.bool (rd_T39 xs i).f0.f0) ∧ w.cell? ⟨(ad.add (i.toNat * 3)).block, (ad.add (i.toNat * 3)).off + 1, none⟩ = some (.slice A1 (rd_T39 xs i).f0.f1.length c1) ∧ w.cell? ⟨(ad.add (i.toNat * 3)).block, (ad.add (i.toNat * 3)).off + 2, none⟩ = some (.slice A2 (rd_T39 xs i).f1.length c2) ∧ (rd_T39 xs i).f0.f1.length ≤ c1 ∧ (Kd.int .u32).C w A1 (rd_T39 xs i).f0.f1.length (rd_T39 xs i).f0.f1 ∧ (rd_T39 xs i).f1.length ≤ c2 ∧ (Kd.int .u32).C w A2 (rd_T39 xs i).f1.length (rd_T39 xs i).f1 := by
  obtain ⟨ad, c, e, _, hK, hc0⟩ := Kd.C_get h z39 i h0 h1
  have hc : ∀ j u, c[j]? = some u → w.cell? (ad.add (i.toNat * 3 + j)) = some u := hc0
  obtain ⟨A1, c1, A2, c2, rfl, l1, g1, l2, g2⟩ := k39_open hK
  exact ⟨ad, A1, c1, A2, c2, e, hc 0 _ rfl, by rw [← add_field _ _ 1 (by omega)]; exact hc 1 _ rfl, by rw [← add_field _ _ 2 (by omega)]; exact hc 2 _ rfl, l1, g1, l2, g2⟩
structure S46 where
  f0 : Int
  f1 : Int
def z46 : S46 := ⟨(0 : Int), (0 : Int)⟩
def k46 : Kd S46 := Kd.iso (Kd.pair (Kd.int .i64) (Kd.int .i64)) (fun x : S46 => (x.f0, x.f1))
theorem k46_open {w : World} {x : S46} {cs : List Value} (h : k46.K w x cs) : cs = [.int .i64 x.f0, .int .i64 x.f1] := by
  obtain ⟨_, _, rfl, rfl, rfl⟩ := h
  exact rfl
theorem k46_mk (w : World) (x : S46)  : k46.K w x [.int .i64 x.f0, .int .i64 x.f1] := ⟨[.int .i64 x.f0], [.int .i64 x.f1], rfl, rfl, rfl⟩
def rd_T46 (xs : List S46) (i : Int) : S46 := xs.getD i.toNat z46
theorem at_T46 {w : World} {A : Option Addr} {n : Nat} {xs : List S46} (h : Kd.C k46 w A n xs) (i : Int) (h0 : 0 ≤ i) (h1 : i < n) : ∃ ad , A = some ad ∧ w.cell? (ad.add (i.toNat * 2)) = some (.int .i64 (rd_T46 xs i).f0) ∧ w.cell? ⟨(ad.add (i.toNat * 2)).block, (ad.add (i.toNat * 2)).off + 1, none⟩ = some (.int .i64 (rd_T46 xs i).f1) := by
  obtain ⟨ad, c, e, _, hK, hc0⟩ := Kd.C_get h z46 i h0 h1
  have hc : ∀ j u, c[j]? = some u → w.cell? (ad.add (i.toNat * 2 + j)) = some u := hc0
  obtain rfl := k46_open hK
  exact ⟨ad, e, hc 0 _ rfl, by rw [← add_field _ _ 1 (by omega)]; exact hc 1 _ rfl⟩
structure S24 where
  f0 : Int
  f1 : (List S46)
def k24 : Kd S24 := Kd.iso (Kd.pair (Kd.int .i64) (Kd.slice 46 k46)) (fun x : S24 => (x.f0, x.f1))
theorem sT_ {α : Type} : (∀ (l : List α) (i : Nat) (a : α), l.toArray.setIfInBounds i a = (l.set i a).toArray) ∧ (∀ (a b : α) (l : List α), (a :: l).set 0 b = b :: l) ∧ (∀ (a b : α) (l : List α) (n : Nat), (a :: l).set (n + 1) b = a :: l.set n b) := ⟨fun l i a => by simp, fun _ _ _ => rfl, fun _ _ _ _ => rfl⟩

end Go.Proofs.Ytgnffmbaecabnaa.M
