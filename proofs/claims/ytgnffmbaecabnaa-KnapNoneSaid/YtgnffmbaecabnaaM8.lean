-- Printed by a program of this session's own (wip/myprint.py), out of the kit's print with functions given by hand. Lean checks it.
import Derived.Test.YtgnffmbaecabnaaM0
import Derived.Test.YtgnffmbaecabnaaM1
import Derived.Test.YtgnffmbaecabnaaM2
import Derived.Test.YtgnffmbaecabnaaM4
import Derived.Test.YtgnffmbaecabnaaM5
import Derived.Test.YtgnffmbaecabnaaM6
import Derived.Test.YtgnffmbaecabnaaM7
namespace Go.Proofs.Ytgnffmbaecabnaa.M
open Go.RowKit Go.Shelf Go.Proofs.YtgnffmbaecabnaaW.PrintWords Go.Proofs.YtgnffmbaecabnaaW.PrintLast Go.Proofs.YtgnffmbaecabnaaW.PrintMore
attribute [local go_sem] z33q z31q max_two min_two z28q z27q z32q z30q   -- for this text's walks alone
set_option linter.unusedVariables false
set_option linter.unusedSimpArgs false
set_option maxRecDepth 100000
theorem z23q {W : World} {B B' : Nat} {x y z x' y' z' : Value} {t : TypeId} (h : W.heap[B]? = some (.cells #[x, y, z] t (0, 0))) (h' : W.heap[B']? = some (.cells #[x', y', z'] t (0, 0))) :
    W.cell? ⟨B, 0, none⟩ = some x ∧ W.cell? ⟨B, 1, none⟩ = some y ∧ W.cell? ⟨B, 2, none⟩ = some z ∧ W.cell? ⟨B', 0, none⟩ = some x' ∧ W.cell? ⟨B', 1, none⟩ = some y' ∧ W.cell? ⟨B', 2, none⟩ = some z' :=
  ⟨(z04q h 0).trans rfl, (z04q h 1).trans rfl, (z04q h 2).trans rfl, (z04q h' 0).trans rfl, (z04q h' 1).trans rfl, (z04q h' 2).trans rfl⟩
theorem three_boxes (w : World) (x y z x' y' z' : Value) (t t' : TypeId) (cs : Array Value) :
    (((w.alloc (.cells #[x, y, z] t)).alloc (.cells #[x', y', z'] t)).alloc (.cells cs t')).heap[w.heap.size]? = some (.cells #[x, y, z] t (0, 0)) ∧
    (((w.alloc (.cells #[x, y, z] t)).alloc (.cells #[x', y', z'] t)).alloc (.cells cs t')).heap[w.heap.size + 1]? = some (.cells #[x', y', z'] t (0, 0)) ∧
    (((w.alloc (.cells #[x, y, z] t)).alloc (.cells #[x', y', z'] t)).alloc (.cells cs t')).heap[w.heap.size + 1 + 1]? = some (.cells cs t' (0, 0)) ∧
    Below w.heap.size w (((w.alloc (.cells #[x, y, z] t)).alloc (.cells #[x', y', z'] t)).alloc (.cells cs t')) := by
  refine ⟨z05q (z05q (World.alloc_heap_new w _) _) _, z05q ?_ _, ?_, (((Below.refl _ w).alloc (Nat.le_refl _) _).alloc (by simp) _).alloc (by simp; omega) _⟩
  · have := World.alloc_heap_new (w.alloc (.cells #[x, y, z] t)) (.cells #[x', y', z'] t)
    rwa [World.size_alloc] at this
  · have := World.alloc_heap_new ((w.alloc (.cells #[x, y, z] t)).alloc (.cells #[x', y', z'] t)) (.cells cs t')
    rwa [World.size_alloc, World.size_alloc] at this
def rat_over.f (k : Nat) (a0_0 : Bool) (l0_1 l0_2 : List Int) (a1_0 : Bool) (l1_1 l1_2 : List Int) : Option (Bool × List Int) := (rat_den.f k l1_2).bind fun d => (whole_Make.f k false d).bind fun x => (whole_Mul.f k a0_0 l0_1 x.1 x.2).bind fun y => some (y.1, y.2)
theorem rat_over.mono : ∀ a0 a1 a2 a3 a4 a5 k, LeO (rat_over.f k a0 a1 a2 a3 a4 a5) (rat_over.f (k + 1) a0 a1 a2 a3 a4 a5) := fun a0 a1 a2 a3 a4 a5 k => by
  unfold rat_over.f
  exact LeO.bind (rat_den.mono _ _) (fun _ => LeO.bind (whole_Make.mono _ _ _) (fun _ => LeO.bind (whole_Mul.mono _ _ _ _ _) (fun _ => LeO.refl _)))
set_option maxHeartbeats 8000000 in
theorem rat_over.calls (k : Nat) (a0_0 : Bool) (A0_1 : Option Addr) (c0_1 : Nat) (l0_1 : List Int) (A0_2 : Option Addr) (c0_2 : Nat) (l0_2 : List Int) (a1_0 : Bool) (A1_1 : Option Addr) (c1_1 : Nat) (l1_1 : List Int) (A1_2 : Option Addr) (c1_2 : Nat) (l1_2 : List Int) (r1 : Bool) (r2 : List Int) (w : World) (hr0_1 : Kd.C (Kd.int .u32) w A0_1 l0_1.length l0_1) (hc0_1 : l0_1.length ≤ c0_1) (hr0_2 : Kd.C (Kd.int .u32) w A0_2 l0_2.length l0_2) (hc0_2 : l0_2.length ≤ c0_2) (hr1_1 : Kd.C (Kd.int .u32) w A1_1 l1_1.length l1_1) (hc1_1 : l1_1.length ≤ c1_1) (hr1_2 : Kd.C (Kd.int .u32) w A1_2 l1_2.length l1_2) (hc1_2 : l1_2.length ≤ c1_2) (h : rat_over.f k a0_0 l0_1 l0_2 a1_0 l1_1 l1_2 = some (r1, r2)) :
    Calls Try.prog 25 #[.agg #[.bool a0_0, .slice A0_1 l0_1.length c0_1, .slice A0_2 l0_2.length c0_2], .agg #[.bool a1_0, .slice A1_1 l1_1.length c1_1, .slice A1_2 l1_2.length c1_2]] w fun e w' => ∃ v1_ : Value, e = .returned (.agg #[.bool r1, v1_]) ∧ Kd.R (Kd.int .u32) 96 w' w.heap.size (fun _ => True) v1_ r2 ∧ Below w.heap.size w w' := by
  obtain ⟨d, hd, h⟩ := Option.bind_eq_some_iff.mp h
  obtain ⟨⟨x1, x2⟩, hx, h⟩ := Option.bind_eq_some_iff.mp h
  obtain ⟨⟨y1, y2⟩, hy, h⟩ := Option.bind_eq_some_iff.mp h
  simp only [Option.some.injEq, Prod.mk.injEq] at h
  obtain ⟨rfl, rfl⟩ := h
  have HD : Hid (rat_den.f k l1_2 = some d) := hd
  have HX : Hid (whole_Make.f k false d = some (x1, x2)) := hx
  have HY : Hid (whole_Mul.f k a0_0 l0_1 x1 x2 = some (y1, y2)) := hy
  have HR0 := Aside0.mk (And.intro hc0_1 hr0_1)
  have HR1 := Aside0.mk (And.intro hc1_2 hr1_2)
  clear hd hx hy hr0_1 hc0_1 hr0_2 hc0_2 hr1_1 hc1_1 hr1_2 hc1_2
  have hmx : Try.prog.follows .mixedOrders = true := by kernel_rfl
  go_enter Try.func25, Try.ntmps25
  go_wp2
  obtain ⟨hB0, hB1, hB2, hbel⟩ := three_boxes w (.bool a0_0) (.slice A0_1 l0_1.length c0_1) (.slice A0_2 l0_2.length c0_2) (.bool a1_0) (.slice A1_1 l1_1.length c1_1) (.slice A1_2 l1_2.length c1_2) 39 37 #[.bool false, .slice none 0 0]
  generalize (((w.alloc (.cells #[.bool a0_0, .slice A0_1 l0_1.length c0_1, .slice A0_2 l0_2.length c0_2] 39)).alloc (.cells #[.bool a1_0, .slice A1_1 l1_1.length c1_1, .slice A1_2 l1_2.length c1_2] 39)).alloc (.cells #[.bool false, .slice none 0 0] 37)) = W at *
  have X0 := Aside0.mk (And.intro hB0 (And.intro hB1 hB2))
  have B0 := Aside0.mk hbel
  have hS0 : W.drew.cell? ⟨w.heap.size, 0, none⟩ = some (.bool a0_0) ∧ W.drew.cell? ⟨w.heap.size, 1, none⟩ = some (.slice A0_1 l0_1.length c0_1) ∧ W.drew.cell? ⟨w.heap.size, 2, none⟩ = some (.slice A0_2 l0_2.length c0_2) ∧ W.drew.cell? ⟨w.heap.size + 1, 0, none⟩ = some (.bool a1_0) ∧ W.drew.cell? ⟨w.heap.size + 1, 1, none⟩ = some (.slice A1_1 l1_1.length c1_1) ∧ W.drew.cell? ⟨w.heap.size + 1, 2, none⟩ = some (.slice A1_2 l1_2.length c1_2) := z23q hB0 hB1
  clear hB0 hB1 hB2 hbel
  go_region_held3 (fun w' => w'.cell? ⟨w.heap.size, 0, none⟩ = some (.bool a0_0) ∧ w'.cell? ⟨w.heap.size, 1, none⟩ = some (.slice A0_1 l0_1.length c0_1) ∧ w'.cell? ⟨w.heap.size, 2, none⟩ = some (.slice A0_2 l0_2.length c0_2) ∧ w'.cell? ⟨w.heap.size + 1, 0, none⟩ = some (.bool a1_0) ∧ w'.cell? ⟨w.heap.size + 1, 1, none⟩ = some (.slice A1_1 l1_1.length c1_1) ∧ w'.cell? ⟨w.heap.size + 1, 2, none⟩ = some (.slice A1_2 l1_2.length c1_2)) (first | assumption | go_keep) (first
    | (go_at_call 43; (with_reducible refine (rat_den.reads k a1_0 A1_1 l1_1.length c1_1 A1_2 c1_2 l1_2 d _ (Kd.C_below HR1.out.2 (B0.out.trans (Below.refl _ W).drew)) HR1.out.1 HD.out).mono ?_); rintro e w1 ⟨Ad, cd, rfl, hld, hCd, hb1⟩; have B1 : Aside0 (Below w.heap.size w w1) := ⟨B0.out.trans (((Below.refl _ W).drew.trans hb1).mono B0.out.size)⟩; have X1 : Aside0 (w1.heap[w.heap.size]? = some (.cells #[.bool a0_0, .slice A0_1 l0_1.length c0_1, .slice A0_2 l0_2.length c0_2] 39) ∧ w1.heap[w.heap.size + 1]? = some (.cells #[.bool a1_0, .slice A1_1 l1_1.length c1_1, .slice A1_2 l1_2.length c1_2] 39) ∧ w1.heap[w.heap.size + 1 + 1]? = some (.cells #[.bool false, .slice none 0 0] 37)) := ⟨z09q (w := W.drew) X0.out.1 hb1, z09q (w := W.drew) X0.out.2.1 hb1, z09q (w := W.drew) X0.out.2.2 hb1⟩; have D1 := Aside0.mk (And.intro hld hCd); have hS1 : w1.cell? ⟨w.heap.size, 0, none⟩ = some (.bool a0_0) ∧ w1.cell? ⟨w.heap.size, 1, none⟩ = some (.slice A0_1 l0_1.length c0_1) ∧ w1.cell? ⟨w.heap.size, 2, none⟩ = some (.slice A0_2 l0_2.length c0_2) ∧ w1.cell? ⟨w.heap.size + 1, 0, none⟩ = some (.bool a1_0) ∧ w1.cell? ⟨w.heap.size + 1, 1, none⟩ = some (.slice A1_1 l1_1.length c1_1) ∧ w1.cell? ⟨w.heap.size + 1, 2, none⟩ = some (.slice A1_2 l1_2.length c1_2) := z23q X1.out.1 X1.out.2.1; clear hb1 hld hCd hS0)
    | (go_at_call 47; (with_reducible refine (whole_Make.calls k false Ad cd d x1 x2 _ D1.out.2 D1.out.1 HX.out).mono ?_); rintro e w2 ⟨v2, rfl, hv2, hb2⟩; obtain ⟨A2, c2, rfl, hl2, hC2⟩ := Kd.R_reads hv2; have B2 : Aside0 (Below w.heap.size w w2) := ⟨B1.out.trans (hb2.mono B1.out.size)⟩; have X2 : Aside0 (w2.heap[w.heap.size]? = some (.cells #[.bool a0_0, .slice A0_1 l0_1.length c0_1, .slice A0_2 l0_2.length c0_2] 39) ∧ w2.heap[w.heap.size + 1]? = some (.cells #[.bool a1_0, .slice A1_1 l1_1.length c1_1, .slice A1_2 l1_2.length c1_2] 39) ∧ w2.heap[w.heap.size + 1 + 1]? = some (.cells #[.bool false, .slice none 0 0] 37)) := ⟨z09q X1.out.1 hb2, z09q X1.out.2.1 hb2, z09q X1.out.2.2 hb2⟩; have D2 := Aside0.mk (And.intro hl2 hC2); have hS2 : w2.cell? ⟨w.heap.size, 0, none⟩ = some (.bool a0_0) ∧ w2.cell? ⟨w.heap.size, 1, none⟩ = some (.slice A0_1 l0_1.length c0_1) ∧ w2.cell? ⟨w.heap.size, 2, none⟩ = some (.slice A0_2 l0_2.length c0_2) ∧ w2.cell? ⟨w.heap.size + 1, 0, none⟩ = some (.bool a1_0) ∧ w2.cell? ⟨w.heap.size + 1, 1, none⟩ = some (.slice A1_1 l1_1.length c1_1) ∧ w2.cell? ⟨w.heap.size + 1, 2, none⟩ = some (.slice A1_2 l1_2.length c1_2) := z23q X2.out.1 X2.out.2.1; clear hb2 hl2 hC2 hv2 hS1)
    | (go_at_call 46; (with_reducible refine (whole_Mul.calls k a0_0 A0_1 c0_1 l0_1 x1 A2 c2 x2 y1 y2 _ (Kd.C_below HR0.out.2 B2.out) HR0.out.1 D2.out.2 D2.out.1 HY.out).mono ?_); rintro e w3 ⟨v3, rfl, hv3, hb3⟩; obtain ⟨A3, c3, rfl, hl3, hC3⟩ := Kd.R_reads hv3; have B3 : Aside0 (Below w.heap.size w w3) := ⟨B2.out.trans (hb3.mono B2.out.size)⟩; have X3 : Aside0 (w3.heap[w.heap.size]? = some (.cells #[.bool a0_0, .slice A0_1 l0_1.length c0_1, .slice A0_2 l0_2.length c0_2] 39) ∧ w3.heap[w.heap.size + 1]? = some (.cells #[.bool a1_0, .slice A1_1 l1_1.length c1_1, .slice A1_2 l1_2.length c1_2] 39) ∧ w3.heap[w.heap.size + 1 + 1]? = some (.cells #[.bool false, .slice none 0 0] 37)) := ⟨z09q X2.out.1 hb3, z09q X2.out.2.1 hb3, z09q X2.out.2.2 hb3⟩; have V3 := Aside0.mk hv3; have hS3 : w3.cell? ⟨w.heap.size, 0, none⟩ = some (.bool a0_0) ∧ w3.cell? ⟨w.heap.size, 1, none⟩ = some (.slice A0_1 l0_1.length c0_1) ∧ w3.cell? ⟨w.heap.size, 2, none⟩ = some (.slice A0_2 l0_2.length c0_2) ∧ w3.cell? ⟨w.heap.size + 1, 0, none⟩ = some (.bool a1_0) ∧ w3.cell? ⟨w.heap.size + 1, 1, none⟩ = some (.slice A1_1 l1_1.length c1_1) ∧ w3.cell? ⟨w.heap.size + 1, 2, none⟩ = some (.slice A1_2 l1_2.length c1_2) := z23q X3.out.1 X3.out.2.1; have q0 : w3.cell? ⟨w.heap.size + 1 + 1, 0, none⟩ = some (.bool false) := (z04q X3.out.2.2 0).trans rfl; have q1 : w3.cell? ⟨w.heap.size + 1 + 1, 1, none⟩ = some (.slice none 0 0) := (z04q X3.out.2.2 1).trans rfl; have f0 := z08q X3.out.2.2 0; have f1 := z08q X3.out.2.2 1; have hS4 : ((w3.setCell ⟨w.heap.size + 1 + 1, 0, none⟩ (.bool y1)).setCell ⟨w.heap.size + 1 + 1, 1, none⟩ (.slice A3 y2.length c3)).cell? ⟨w.heap.size, 0, none⟩ = some (.bool a0_0) ∧ ((w3.setCell ⟨w.heap.size + 1 + 1, 0, none⟩ (.bool y1)).setCell ⟨w.heap.size + 1 + 1, 1, none⟩ (.slice A3 y2.length c3)).cell? ⟨w.heap.size, 1, none⟩ = some (.slice A0_1 l0_1.length c0_1) ∧ ((w3.setCell ⟨w.heap.size + 1 + 1, 0, none⟩ (.bool y1)).setCell ⟨w.heap.size + 1 + 1, 1, none⟩ (.slice A3 y2.length c3)).cell? ⟨w.heap.size, 2, none⟩ = some (.slice A0_2 l0_2.length c0_2) ∧ ((w3.setCell ⟨w.heap.size + 1 + 1, 0, none⟩ (.bool y1)).setCell ⟨w.heap.size + 1 + 1, 1, none⟩ (.slice A3 y2.length c3)).cell? ⟨w.heap.size + 1, 0, none⟩ = some (.bool a1_0) ∧ ((w3.setCell ⟨w.heap.size + 1 + 1, 0, none⟩ (.bool y1)).setCell ⟨w.heap.size + 1 + 1, 1, none⟩ (.slice A3 y2.length c3)).cell? ⟨w.heap.size + 1, 1, none⟩ = some (.slice A1_1 l1_1.length c1_1) ∧ ((w3.setCell ⟨w.heap.size + 1 + 1, 0, none⟩ (.bool y1)).setCell ⟨w.heap.size + 1 + 1, 1, none⟩ (.slice A3 y2.length c3)).cell? ⟨w.heap.size + 1, 2, none⟩ = some (.slice A1_2 l1_2.length c1_2) := z23q ((Below.heap_setCell _ _ _ _ (by simp; omega)).trans ((Below.heap_setCell _ _ _ _ (by simp; omega)).trans X3.out.1)) ((Below.heap_setCell _ _ _ _ (by simp)).trans ((Below.heap_setCell _ _ _ _ (by simp)).trans X3.out.2.1)); clear hb3 hl3 hC3 hv3 hS2))
  go_wp2
  refine bodyPost_ret (results_cell_row rfl _ _ (w.heap.size + 1 + 1) 37 #[.bool y1, .slice A3 y2.length c3] (0, 0) _ rfl (blk_put (cs := #[.bool y1, .slice none 0 0]) (blk_put (cs := #[.bool false, .slice none 0 0]) X3.out.2.2 0 _ rfl) 1 _ rfl) Try.underlying37 rfl (by kernel_rfl)) rfl ?_
  have s3 : w.heap.size + 1 + 1 < w2.heap.size := blk_lt X2.out.2.2
  refine ⟨_, rfl, ?_, (B3.out.setCell (p := ⟨w.heap.size + 1 + 1, 0, none⟩) (by simp; omega) _).setCell (p := ⟨w.heap.size + 1 + 1, 1, none⟩) (by simp; omega) _⟩
  exact Kd.R_lower (Kd.R_mono (Kd.R_far (p := ⟨w.heap.size + 1 + 1, 1, none⟩) (Kd.R_far (p := ⟨w.heap.size + 1 + 1, 0, none⟩) (Kd.R_bound V3.out) (fun k hk => by have := hk.2.1; show k ≠ w.heap.size + 1 + 1; omega) _) (fun k hk => by have := hk.2.1; show k ≠ w.heap.size + 1 + 1; omega) _) (fun _ _ => trivial)) (by omega)
set_option maxRecDepth 100000
def rat_Mul.f (k : Nat) (a0_0 : Bool) (l0_1 l0_2 : List Int) (a1_0 : Bool) (l1_1 l1_2 : List Int) : Option (Bool × List Int × List Int) := (whole_Mul.f k a0_0 l0_1 a1_0 l1_1).bind fun y => (rat_den.f k l0_2).bind fun da => (rat_den.f k l1_2).bind fun db => (nat_Mul.f k da db).bind fun m => (rat_Make.f k y.1 y.2 m).bind fun z => some (z.1, z.2.1, z.2.2)
theorem rat_Mul.mono : ∀ a0 a1 a2 a3 a4 a5 k, LeO (rat_Mul.f k a0 a1 a2 a3 a4 a5) (rat_Mul.f (k + 1) a0 a1 a2 a3 a4 a5) := fun a0 a1 a2 a3 a4 a5 k => by
  unfold rat_Mul.f
  exact LeO.bind (whole_Mul.mono _ _ _ _ _) (fun _ => LeO.bind (rat_den.mono _ _) (fun _ => LeO.bind (rat_den.mono _ _) (fun _ => LeO.bind (nat_Mul.mono _ _ _) (fun _ => LeO.bind (rat_Make.mono _ _ _ _) (fun _ => LeO.refl _)))))
set_option maxHeartbeats 8000000 in
theorem rat_Mul.calls (k : Nat) (a0_0 : Bool) (A0_1 : Option Addr) (c0_1 : Nat) (l0_1 : List Int) (A0_2 : Option Addr) (c0_2 : Nat) (l0_2 : List Int) (a1_0 : Bool) (A1_1 : Option Addr) (c1_1 : Nat) (l1_1 : List Int) (A1_2 : Option Addr) (c1_2 : Nat) (l1_2 : List Int) (r1 : Bool) (r2 r3 : List Int) (w : World) (hr0_1 : Kd.C (Kd.int .u32) w A0_1 l0_1.length l0_1) (hc0_1 : l0_1.length ≤ c0_1) (hr0_2 : Kd.C (Kd.int .u32) w A0_2 l0_2.length l0_2) (hc0_2 : l0_2.length ≤ c0_2) (hr1_1 : Kd.C (Kd.int .u32) w A1_1 l1_1.length l1_1) (hc1_1 : l1_1.length ≤ c1_1) (hr1_2 : Kd.C (Kd.int .u32) w A1_2 l1_2.length l1_2) (hc1_2 : l1_2.length ≤ c1_2) (h : rat_Mul.f k a0_0 l0_1 l0_2 a1_0 l1_1 l1_2 = some (r1, r2, r3)) :
    Calls Try.prog 27 #[.agg #[.bool a0_0, .slice A0_1 l0_1.length c0_1, .slice A0_2 l0_2.length c0_2], .agg #[.bool a1_0, .slice A1_1 l1_1.length c1_1, .slice A1_2 l1_2.length c1_2]] w fun e w' => ∃ v1_ v2_ : Value, e = .returned (.agg #[.bool r1, v1_, v2_]) ∧ Kd.R (Kd.int .u32) 96 w' w.heap.size (fun k_ => some k_ ≠ (v2_ : Value).ownBlock) v1_ r2 ∧ Kd.R (Kd.int .u32) 96 w' w.heap.size (fun k_ => some k_ ≠ (v1_ : Value).ownBlock) v2_ r3 ∧ Below w.heap.size w w' := by
  obtain ⟨⟨y1, y2⟩, h0, h⟩ := Option.bind_eq_some_iff.mp h
  obtain ⟨da, h1, h⟩ := Option.bind_eq_some_iff.mp h
  obtain ⟨db, h2, h⟩ := Option.bind_eq_some_iff.mp h
  obtain ⟨m, h3, h⟩ := Option.bind_eq_some_iff.mp h
  obtain ⟨⟨z1, z2, z3⟩, h4, h⟩ := Option.bind_eq_some_iff.mp h
  simp only [Option.some.injEq, Prod.mk.injEq] at h
  obtain ⟨rfl, rfl, rfl⟩ := h
  have H0 : Hid (whole_Mul.f k a0_0 l0_1 a1_0 l1_1 = some (y1, y2)) := h0
  have H1 : Hid (rat_den.f k l0_2 = some da) := h1
  have H2 : Hid (rat_den.f k l1_2 = some db) := h2
  have H3 : Hid (nat_Mul.f k da db = some m) := h3
  have H4 : Hid (rat_Make.f k y1 y2 m = some (z1, z2, z3)) := h4
  clear h0 h1 h2 h3 h4
  have HR0_1 := Aside0.mk (And.intro hc0_1 hr0_1)
  have HR0_2 := Aside0.mk (And.intro hc0_2 hr0_2)
  have HR1_1 := Aside0.mk (And.intro hc1_1 hr1_1)
  have HR1_2 := Aside0.mk (And.intro hc1_2 hr1_2)
  clear hr0_1 hc0_1 hr0_2 hc0_2 hr1_1 hc1_1 hr1_2 hc1_2
  have hmx : Try.prog.follows .mixedOrders = true := by kernel_rfl
  go_enter Try.func27, Try.ntmps27
  go_wp2
  obtain ⟨hB0, hB1, hB2, hbel⟩ := three_boxes w (.bool a0_0) (.slice A0_1 l0_1.length c0_1) (.slice A0_2 l0_2.length c0_2) (.bool a1_0) (.slice A1_1 l1_1.length c1_1) (.slice A1_2 l1_2.length c1_2) 39 39 #[.bool false, .slice none 0 0, .slice none 0 0]
  generalize (((w.alloc (.cells #[.bool a0_0, .slice A0_1 l0_1.length c0_1, .slice A0_2 l0_2.length c0_2] 39)).alloc (.cells #[.bool a1_0, .slice A1_1 l1_1.length c1_1, .slice A1_2 l1_2.length c1_2] 39)).alloc (.cells #[.bool false, .slice none 0 0, .slice none 0 0] 39)) = W at *
  have X0 : Aside0 (W.drew.heap[w.heap.size]? = some (.cells #[.bool a0_0, .slice A0_1 l0_1.length c0_1, .slice A0_2 l0_2.length c0_2] 39) ∧ W.drew.heap[w.heap.size + 1]? = some (.cells #[.bool a1_0, .slice A1_1 l1_1.length c1_1, .slice A1_2 l1_2.length c1_2] 39) ∧ W.drew.heap[w.heap.size + 1 + 1]? = some (.cells #[.bool false, .slice none 0 0, .slice none 0 0] 39)) := ⟨hB0, hB1, hB2⟩
  have B0 : Aside0 (Below w.heap.size w W.drew) := ⟨hbel.trans (Below.refl _ W).drew⟩
  have hS0 : W.drew.cell? ⟨w.heap.size, 0, none⟩ = some (.bool a0_0) ∧ W.drew.cell? ⟨w.heap.size, 1, none⟩ = some (.slice A0_1 l0_1.length c0_1) ∧ W.drew.cell? ⟨w.heap.size, 2, none⟩ = some (.slice A0_2 l0_2.length c0_2) ∧ W.drew.cell? ⟨w.heap.size + 1, 0, none⟩ = some (.bool a1_0) ∧ W.drew.cell? ⟨w.heap.size + 1, 1, none⟩ = some (.slice A1_1 l1_1.length c1_1) ∧ W.drew.cell? ⟨w.heap.size + 1, 2, none⟩ = some (.slice A1_2 l1_2.length c1_2) := z23q hB0 hB1
  clear hB0 hB1 hB2 hbel
  go_region_held3 (fun w' => w'.cell? ⟨w.heap.size, 0, none⟩ = some (.bool a0_0) ∧ w'.cell? ⟨w.heap.size, 1, none⟩ = some (.slice A0_1 l0_1.length c0_1) ∧ w'.cell? ⟨w.heap.size, 2, none⟩ = some (.slice A0_2 l0_2.length c0_2) ∧ w'.cell? ⟨w.heap.size + 1, 0, none⟩ = some (.bool a1_0) ∧ w'.cell? ⟨w.heap.size + 1, 1, none⟩ = some (.slice A1_1 l1_1.length c1_1) ∧ w'.cell? ⟨w.heap.size + 1, 2, none⟩ = some (.slice A1_2 l1_2.length c1_2)) (first | assumption | go_keep) (first
    | (go_at_call 46; (with_reducible refine (whole_Mul.calls k a0_0 A0_1 c0_1 l0_1 a1_0 A1_1 c1_1 l1_1 y1 y2 _ (Kd.C_below HR0_1.out.2 B0.out) HR0_1.out.1 (Kd.C_below HR1_1.out.2 B0.out) HR1_1.out.1 H0.out).mono ?_); rintro e w1 ⟨v1, rfl, hv, hb⟩; obtain ⟨A1, c1, rfl, hl, hC⟩ := Kd.R_reads hv; have B1 : Aside0 (Below w.heap.size w w1) := ⟨B0.out.trans (hb.mono B0.out.size)⟩; have X1 : Aside0 (w1.heap[w.heap.size]? = some (.cells #[.bool a0_0, .slice A0_1 l0_1.length c0_1, .slice A0_2 l0_2.length c0_2] 39) ∧ w1.heap[w.heap.size + 1]? = some (.cells #[.bool a1_0, .slice A1_1 l1_1.length c1_1, .slice A1_2 l1_2.length c1_2] 39) ∧ w1.heap[w.heap.size + 1 + 1]? = some (.cells #[.bool false, .slice none 0 0, .slice none 0 0] 39)) := ⟨z09q X0.out.1 hb, z09q X0.out.2.1 hb, z09q X0.out.2.2 hb⟩; have hS1 : w1.cell? ⟨w.heap.size, 0, none⟩ = some (.bool a0_0) ∧ w1.cell? ⟨w.heap.size, 1, none⟩ = some (.slice A0_1 l0_1.length c0_1) ∧ w1.cell? ⟨w.heap.size, 2, none⟩ = some (.slice A0_2 l0_2.length c0_2) ∧ w1.cell? ⟨w.heap.size + 1, 0, none⟩ = some (.bool a1_0) ∧ w1.cell? ⟨w.heap.size + 1, 1, none⟩ = some (.slice A1_1 l1_1.length c1_1) ∧ w1.cell? ⟨w.heap.size + 1, 2, none⟩ = some (.slice A1_2 l1_2.length c1_2) := z23q X1.out.1 X1.out.2.1; have Dy1 := Aside0.mk (And.intro hl hC); clear hb hl hC hS0 hv)
    | (go_at_call 43; (with_reducible refine (rat_den.reads k a0_0 A0_1 l0_1.length c0_1 A0_2 c0_2 l0_2 da _ (Kd.C_below HR0_2.out.2 B1.out) HR0_2.out.1 H1.out).mono ?_); rintro e w2 ⟨A2, c2, rfl, hl, hC, hb⟩; have B2 : Aside0 (Below w.heap.size w w2) := ⟨B1.out.trans (hb.mono B1.out.size)⟩; have X2 : Aside0 (w2.heap[w.heap.size]? = some (.cells #[.bool a0_0, .slice A0_1 l0_1.length c0_1, .slice A0_2 l0_2.length c0_2] 39) ∧ w2.heap[w.heap.size + 1]? = some (.cells #[.bool a1_0, .slice A1_1 l1_1.length c1_1, .slice A1_2 l1_2.length c1_2] 39) ∧ w2.heap[w.heap.size + 1 + 1]? = some (.cells #[.bool false, .slice none 0 0, .slice none 0 0] 39)) := ⟨z09q X1.out.1 hb, z09q X1.out.2.1 hb, z09q X1.out.2.2 hb⟩; have hS2 : w2.cell? ⟨w.heap.size, 0, none⟩ = some (.bool a0_0) ∧ w2.cell? ⟨w.heap.size, 1, none⟩ = some (.slice A0_1 l0_1.length c0_1) ∧ w2.cell? ⟨w.heap.size, 2, none⟩ = some (.slice A0_2 l0_2.length c0_2) ∧ w2.cell? ⟨w.heap.size + 1, 0, none⟩ = some (.bool a1_0) ∧ w2.cell? ⟨w.heap.size + 1, 1, none⟩ = some (.slice A1_1 l1_1.length c1_1) ∧ w2.cell? ⟨w.heap.size + 1, 2, none⟩ = some (.slice A1_2 l1_2.length c1_2) := z23q X2.out.1 X2.out.2.1; have Dy2 := Aside0.mk (And.intro Dy1.out.1 (Kd.C_below Dy1.out.2 hb)); have Dda2 := Aside0.mk (And.intro hl hC); clear hb hl hC hS1)
    | (go_at_call 43; (with_reducible refine (rat_den.reads k a1_0 A1_1 l1_1.length c1_1 A1_2 c1_2 l1_2 db _ (Kd.C_below HR1_2.out.2 B2.out) HR1_2.out.1 H2.out).mono ?_); rintro e w3 ⟨A3, c3, rfl, hl, hC, hb⟩; have B3 : Aside0 (Below w.heap.size w w3) := ⟨B2.out.trans (hb.mono B2.out.size)⟩; have X3 : Aside0 (w3.heap[w.heap.size]? = some (.cells #[.bool a0_0, .slice A0_1 l0_1.length c0_1, .slice A0_2 l0_2.length c0_2] 39) ∧ w3.heap[w.heap.size + 1]? = some (.cells #[.bool a1_0, .slice A1_1 l1_1.length c1_1, .slice A1_2 l1_2.length c1_2] 39) ∧ w3.heap[w.heap.size + 1 + 1]? = some (.cells #[.bool false, .slice none 0 0, .slice none 0 0] 39)) := ⟨z09q X2.out.1 hb, z09q X2.out.2.1 hb, z09q X2.out.2.2 hb⟩; have hS3 : w3.cell? ⟨w.heap.size, 0, none⟩ = some (.bool a0_0) ∧ w3.cell? ⟨w.heap.size, 1, none⟩ = some (.slice A0_1 l0_1.length c0_1) ∧ w3.cell? ⟨w.heap.size, 2, none⟩ = some (.slice A0_2 l0_2.length c0_2) ∧ w3.cell? ⟨w.heap.size + 1, 0, none⟩ = some (.bool a1_0) ∧ w3.cell? ⟨w.heap.size + 1, 1, none⟩ = some (.slice A1_1 l1_1.length c1_1) ∧ w3.cell? ⟨w.heap.size + 1, 2, none⟩ = some (.slice A1_2 l1_2.length c1_2) := z23q X3.out.1 X3.out.2.1; have Dy3 := Aside0.mk (And.intro Dy2.out.1 (Kd.C_below Dy2.out.2 hb)); have Dda3 := Aside0.mk (And.intro Dda2.out.1 (Kd.C_below Dda2.out.2 hb)); have Ddb3 := Aside0.mk (And.intro hl hC); clear hb hl hC hS2)
    | (go_at_call 42; (with_reducible refine (nat_Mul.calls k A2 c2 da A3 c3 db m _ Dda3.out.2 Dda3.out.1 Ddb3.out.2 Ddb3.out.1 H3.out).mono ?_); rintro e w4 ⟨v4, rfl, hv, hb⟩; obtain ⟨A4, c4, rfl, hl, hC⟩ := Kd.R_reads hv; have B4 : Aside0 (Below w.heap.size w w4) := ⟨B3.out.trans (hb.mono B3.out.size)⟩; have X4 : Aside0 (w4.heap[w.heap.size]? = some (.cells #[.bool a0_0, .slice A0_1 l0_1.length c0_1, .slice A0_2 l0_2.length c0_2] 39) ∧ w4.heap[w.heap.size + 1]? = some (.cells #[.bool a1_0, .slice A1_1 l1_1.length c1_1, .slice A1_2 l1_2.length c1_2] 39) ∧ w4.heap[w.heap.size + 1 + 1]? = some (.cells #[.bool false, .slice none 0 0, .slice none 0 0] 39)) := ⟨z09q X3.out.1 hb, z09q X3.out.2.1 hb, z09q X3.out.2.2 hb⟩; have hS4 : w4.cell? ⟨w.heap.size, 0, none⟩ = some (.bool a0_0) ∧ w4.cell? ⟨w.heap.size, 1, none⟩ = some (.slice A0_1 l0_1.length c0_1) ∧ w4.cell? ⟨w.heap.size, 2, none⟩ = some (.slice A0_2 l0_2.length c0_2) ∧ w4.cell? ⟨w.heap.size + 1, 0, none⟩ = some (.bool a1_0) ∧ w4.cell? ⟨w.heap.size + 1, 1, none⟩ = some (.slice A1_1 l1_1.length c1_1) ∧ w4.cell? ⟨w.heap.size + 1, 2, none⟩ = some (.slice A1_2 l1_2.length c1_2) := z23q X4.out.1 X4.out.2.1; have Dy4 := Aside0.mk (And.intro Dy3.out.1 (Kd.C_below Dy3.out.2 hb)); have Dda4 := Aside0.mk (And.intro Dda3.out.1 (Kd.C_below Dda3.out.2 hb)); have Ddb4 := Aside0.mk (And.intro Ddb3.out.1 (Kd.C_below Ddb3.out.2 hb)); have Dm4 := Aside0.mk (And.intro hl hC); clear hb hl hC hS3 hv)
    | (go_at_call 28; (with_reducible refine (rat_Make.calls k y1 A1 c1 y2 A4 c4 m z1 z2 z3 _ Dy4.out.2 Dy4.out.1 Dm4.out.2 Dm4.out.1 H4.out).mono ?_); rintro e w5 ⟨v5, u5, rfl, hv, hu, hb⟩; obtain ⟨A5, c5, rfl, hl, hC⟩ := Kd.R_reads hv; obtain ⟨E5, g5, rfl, hl', hC'⟩ := Kd.R_reads hu; have B5 : Aside0 (Below w.heap.size w w5) := ⟨B4.out.trans (hb.mono B4.out.size)⟩; have X5 : Aside0 (w5.heap[w.heap.size]? = some (.cells #[.bool a0_0, .slice A0_1 l0_1.length c0_1, .slice A0_2 l0_2.length c0_2] 39) ∧ w5.heap[w.heap.size + 1]? = some (.cells #[.bool a1_0, .slice A1_1 l1_1.length c1_1, .slice A1_2 l1_2.length c1_2] 39) ∧ w5.heap[w.heap.size + 1 + 1]? = some (.cells #[.bool false, .slice none 0 0, .slice none 0 0] 39)) := ⟨z09q X4.out.1 hb, z09q X4.out.2.1 hb, z09q X4.out.2.2 hb⟩; have hS5 : w5.cell? ⟨w.heap.size, 0, none⟩ = some (.bool a0_0) ∧ w5.cell? ⟨w.heap.size, 1, none⟩ = some (.slice A0_1 l0_1.length c0_1) ∧ w5.cell? ⟨w.heap.size, 2, none⟩ = some (.slice A0_2 l0_2.length c0_2) ∧ w5.cell? ⟨w.heap.size + 1, 0, none⟩ = some (.bool a1_0) ∧ w5.cell? ⟨w.heap.size + 1, 1, none⟩ = some (.slice A1_1 l1_1.length c1_1) ∧ w5.cell? ⟨w.heap.size + 1, 2, none⟩ = some (.slice A1_2 l1_2.length c1_2) := z23q X5.out.1 X5.out.2.1; have Dy5 := Aside0.mk (And.intro Dy4.out.1 (Kd.C_below Dy4.out.2 hb)); have Dda5 := Aside0.mk (And.intro Dda4.out.1 (Kd.C_below Dda4.out.2 hb)); have Ddb5 := Aside0.mk (And.intro Ddb4.out.1 (Kd.C_below Ddb4.out.2 hb)); have Dm5 := Aside0.mk (And.intro Dm4.out.1 (Kd.C_below Dm4.out.2 hb)); have V := Aside0.mk hv; have U := Aside0.mk hu; have q0 : w5.cell? ⟨w.heap.size + 1 + 1, 0, none⟩ = some (.bool false) := (z04q X5.out.2.2 0).trans rfl; have f0 := z08q X5.out.2.2 0; have q1 : w5.cell? ⟨w.heap.size + 1 + 1, 1, none⟩ = some (.slice none 0 0) := (z04q X5.out.2.2 1).trans rfl; have f1 := z08q X5.out.2.2 1; have q2 : w5.cell? ⟨w.heap.size + 1 + 1, 2, none⟩ = some (.slice none 0 0) := (z04q X5.out.2.2 2).trans rfl; have f2 := z08q X5.out.2.2 2; have hSf : (((w5.setCell ⟨w.heap.size + 1 + 1, 0, none⟩ (.bool z1)).setCell ⟨w.heap.size + 1 + 1, 1, none⟩ (.slice A5 z2.length c5)).setCell ⟨w.heap.size + 1 + 1, 2, none⟩ (.slice E5 z3.length g5)).cell? ⟨w.heap.size, 0, none⟩ = some (.bool a0_0) ∧ (((w5.setCell ⟨w.heap.size + 1 + 1, 0, none⟩ (.bool z1)).setCell ⟨w.heap.size + 1 + 1, 1, none⟩ (.slice A5 z2.length c5)).setCell ⟨w.heap.size + 1 + 1, 2, none⟩ (.slice E5 z3.length g5)).cell? ⟨w.heap.size, 1, none⟩ = some (.slice A0_1 l0_1.length c0_1) ∧ (((w5.setCell ⟨w.heap.size + 1 + 1, 0, none⟩ (.bool z1)).setCell ⟨w.heap.size + 1 + 1, 1, none⟩ (.slice A5 z2.length c5)).setCell ⟨w.heap.size + 1 + 1, 2, none⟩ (.slice E5 z3.length g5)).cell? ⟨w.heap.size, 2, none⟩ = some (.slice A0_2 l0_2.length c0_2) ∧ (((w5.setCell ⟨w.heap.size + 1 + 1, 0, none⟩ (.bool z1)).setCell ⟨w.heap.size + 1 + 1, 1, none⟩ (.slice A5 z2.length c5)).setCell ⟨w.heap.size + 1 + 1, 2, none⟩ (.slice E5 z3.length g5)).cell? ⟨w.heap.size + 1, 0, none⟩ = some (.bool a1_0) ∧ (((w5.setCell ⟨w.heap.size + 1 + 1, 0, none⟩ (.bool z1)).setCell ⟨w.heap.size + 1 + 1, 1, none⟩ (.slice A5 z2.length c5)).setCell ⟨w.heap.size + 1 + 1, 2, none⟩ (.slice E5 z3.length g5)).cell? ⟨w.heap.size + 1, 1, none⟩ = some (.slice A1_1 l1_1.length c1_1) ∧ (((w5.setCell ⟨w.heap.size + 1 + 1, 0, none⟩ (.bool z1)).setCell ⟨w.heap.size + 1 + 1, 1, none⟩ (.slice A5 z2.length c5)).setCell ⟨w.heap.size + 1 + 1, 2, none⟩ (.slice E5 z3.length g5)).cell? ⟨w.heap.size + 1, 2, none⟩ = some (.slice A1_2 l1_2.length c1_2) := z23q ((Below.heap_setCell _ _ _ _ (by simp; omega)).trans ((Below.heap_setCell _ _ _ _ (by simp; omega)).trans ((Below.heap_setCell _ _ _ _ (by simp; omega)).trans X5.out.1))) ((Below.heap_setCell _ _ _ _ (by simp)).trans ((Below.heap_setCell _ _ _ _ (by simp)).trans ((Below.heap_setCell _ _ _ _ (by simp)).trans X5.out.2.1))); clear hl' hC' hu; clear hb hl hC hS4 hv))
  go_wp2
  refine bodyPost_ret (results_cell_row rfl _ _ (w.heap.size + 1 + 1) 39 #[.bool z1, .slice A5 z2.length c5, .slice E5 z3.length g5] (0, 0) _ rfl (blk_put (cs := #[.bool z1, .slice A5 z2.length c5, .slice none 0 0]) (blk_put (cs := #[.bool z1, .slice none 0 0, .slice none 0 0]) (blk_put (cs := #[.bool false, .slice none 0 0, .slice none 0 0]) X5.out.2.2 0 _ rfl) 1 _ rfl) 2 _ rfl) Try.underlying39 rfl (by kernel_rfl)) rfl ?_
  have s3 : w.heap.size + 1 + 1 < w4.heap.size := blk_lt X4.out.2.2
  refine ⟨_, _, rfl, ?_, ?_, ((B5.out.setCell (p := ⟨w.heap.size + 1 + 1, 0, none⟩) (by simp; omega) _).setCell (p := ⟨w.heap.size + 1 + 1, 1, none⟩) (by simp; omega) _).setCell (p := ⟨w.heap.size + 1 + 1, 2, none⟩) (by simp; omega) _⟩
  · exact Kd.R_lower (Kd.R_mono (Kd.R_far (p := ⟨w.heap.size + 1 + 1, 2, none⟩) (Kd.R_far (p := ⟨w.heap.size + 1 + 1, 1, none⟩) (Kd.R_far (p := ⟨w.heap.size + 1 + 1, 0, none⟩) (Kd.R_bound V.out) (fun k hk => by have := hk.2.1; show k ≠ w.heap.size + 1 + 1; omega) _) (fun k hk => by have := hk.2.1; show k ≠ w.heap.size + 1 + 1; omega) _) (fun k hk => by have := hk.2.1; show k ≠ w.heap.size + 1 + 1; omega) _) (fun _ hk => hk.1)) (by omega)
  · exact Kd.R_lower (Kd.R_mono (Kd.R_far (p := ⟨w.heap.size + 1 + 1, 2, none⟩) (Kd.R_far (p := ⟨w.heap.size + 1 + 1, 1, none⟩) (Kd.R_far (p := ⟨w.heap.size + 1 + 1, 0, none⟩) (Kd.R_bound U.out) (fun k hk => by have := hk.2.1; show k ≠ w.heap.size + 1 + 1; omega) _) (fun k hk => by have := hk.2.1; show k ≠ w.heap.size + 1 + 1; omega) _) (fun k hk => by have := hk.2.1; show k ≠ w.heap.size + 1 + 1; omega) _) (fun _ hk => hk.1)) (by omega)
set_option maxRecDepth 100000
def rat_Add.f (k : Nat) (a0_0 : Bool) (l0_1 l0_2 : List Int) (a1_0 : Bool) (l1_1 l1_2 : List Int) : Option (Bool × List Int × List Int) := (rat_over.f k a0_0 l0_1 l0_2 a1_0 l1_1 l1_2).bind fun p => (rat_over.f k a1_0 l1_1 l1_2 a0_0 l0_1 l0_2).bind fun q => (whole_Add.f k p.1 p.2 q.1 q.2).bind fun s => (rat_den.f k l0_2).bind fun da => (rat_den.f k l1_2).bind fun db => (nat_Mul.f k da db).bind fun m => (rat_Make.f k s.1 s.2 m).bind fun z => some (z.1, z.2.1, z.2.2)
theorem rat_Add.mono : ∀ a0 a1 a2 a3 a4 a5 k, LeO (rat_Add.f k a0 a1 a2 a3 a4 a5) (rat_Add.f (k + 1) a0 a1 a2 a3 a4 a5) := fun a0 a1 a2 a3 a4 a5 k => by
  unfold rat_Add.f
  exact LeO.bind (rat_over.mono _ _ _ _ _ _ _) (fun _ => LeO.bind (rat_over.mono _ _ _ _ _ _ _) (fun _ => LeO.bind (whole_Add.mono _ _ _ _ _) (fun _ => LeO.bind (rat_den.mono _ _) (fun _ => LeO.bind (rat_den.mono _ _) (fun _ => LeO.bind (nat_Mul.mono _ _ _) (fun _ => LeO.bind (rat_Make.mono _ _ _ _) (fun _ => LeO.refl _)))))))
set_option maxHeartbeats 8000000 in
theorem rat_Add.calls (k : Nat) (a0_0 : Bool) (A0_1 : Option Addr) (c0_1 : Nat) (l0_1 : List Int) (A0_2 : Option Addr) (c0_2 : Nat) (l0_2 : List Int) (a1_0 : Bool) (A1_1 : Option Addr) (c1_1 : Nat) (l1_1 : List Int) (A1_2 : Option Addr) (c1_2 : Nat) (l1_2 : List Int) (r1 : Bool) (r2 r3 : List Int) (w : World) (hr0_1 : Kd.C (Kd.int .u32) w A0_1 l0_1.length l0_1) (hc0_1 : l0_1.length ≤ c0_1) (hr0_2 : Kd.C (Kd.int .u32) w A0_2 l0_2.length l0_2) (hc0_2 : l0_2.length ≤ c0_2) (hr1_1 : Kd.C (Kd.int .u32) w A1_1 l1_1.length l1_1) (hc1_1 : l1_1.length ≤ c1_1) (hr1_2 : Kd.C (Kd.int .u32) w A1_2 l1_2.length l1_2) (hc1_2 : l1_2.length ≤ c1_2) (h : rat_Add.f k a0_0 l0_1 l0_2 a1_0 l1_1 l1_2 = some (r1, r2, r3)) :
    Calls Try.prog 23 #[.agg #[.bool a0_0, .slice A0_1 l0_1.length c0_1, .slice A0_2 l0_2.length c0_2], .agg #[.bool a1_0, .slice A1_1 l1_1.length c1_1, .slice A1_2 l1_2.length c1_2]] w fun e w' => ∃ v1_ v2_ : Value, e = .returned (.agg #[.bool r1, v1_, v2_]) ∧ Kd.R (Kd.int .u32) 96 w' w.heap.size (fun k_ => some k_ ≠ (v2_ : Value).ownBlock) v1_ r2 ∧ Kd.R (Kd.int .u32) 96 w' w.heap.size (fun k_ => some k_ ≠ (v1_ : Value).ownBlock) v2_ r3 ∧ Below w.heap.size w w' := by
  obtain ⟨⟨p1, p2⟩, h0, h⟩ := Option.bind_eq_some_iff.mp h
  obtain ⟨⟨q1, q2⟩, h1, h⟩ := Option.bind_eq_some_iff.mp h
  obtain ⟨⟨s1, s2⟩, h2, h⟩ := Option.bind_eq_some_iff.mp h
  obtain ⟨da, h3, h⟩ := Option.bind_eq_some_iff.mp h
  obtain ⟨db, h4, h⟩ := Option.bind_eq_some_iff.mp h
  obtain ⟨m, h5, h⟩ := Option.bind_eq_some_iff.mp h
  obtain ⟨⟨z1, z2, z3⟩, h6, h⟩ := Option.bind_eq_some_iff.mp h
  simp only [Option.some.injEq, Prod.mk.injEq] at h
  obtain ⟨rfl, rfl, rfl⟩ := h
  have H0 : Hid (rat_over.f k a0_0 l0_1 l0_2 a1_0 l1_1 l1_2 = some (p1, p2)) := h0
  have H1 : Hid (rat_over.f k a1_0 l1_1 l1_2 a0_0 l0_1 l0_2 = some (q1, q2)) := h1
  have H2 : Hid (whole_Add.f k p1 p2 q1 q2 = some (s1, s2)) := h2
  have H3 : Hid (rat_den.f k l0_2 = some da) := h3
  have H4 : Hid (rat_den.f k l1_2 = some db) := h4
  have H5 : Hid (nat_Mul.f k da db = some m) := h5
  have H6 : Hid (rat_Make.f k s1 s2 m = some (z1, z2, z3)) := h6
  clear h0 h1 h2 h3 h4 h5 h6
  have HR0_1 := Aside0.mk (And.intro hc0_1 hr0_1)
  have HR0_2 := Aside0.mk (And.intro hc0_2 hr0_2)
  have HR1_1 := Aside0.mk (And.intro hc1_1 hr1_1)
  have HR1_2 := Aside0.mk (And.intro hc1_2 hr1_2)
  clear hr0_1 hc0_1 hr0_2 hc0_2 hr1_1 hc1_1 hr1_2 hc1_2
  have hmx : Try.prog.follows .mixedOrders = true := by kernel_rfl
  go_enter Try.func23, Try.ntmps23
  go_wp2
  obtain ⟨hB0, hB1, hB2, hbel⟩ := three_boxes w (.bool a0_0) (.slice A0_1 l0_1.length c0_1) (.slice A0_2 l0_2.length c0_2) (.bool a1_0) (.slice A1_1 l1_1.length c1_1) (.slice A1_2 l1_2.length c1_2) 39 39 #[.bool false, .slice none 0 0, .slice none 0 0]
  generalize (((w.alloc (.cells #[.bool a0_0, .slice A0_1 l0_1.length c0_1, .slice A0_2 l0_2.length c0_2] 39)).alloc (.cells #[.bool a1_0, .slice A1_1 l1_1.length c1_1, .slice A1_2 l1_2.length c1_2] 39)).alloc (.cells #[.bool false, .slice none 0 0, .slice none 0 0] 39)) = W at *
  have X0 : Aside0 (W.drew.heap[w.heap.size]? = some (.cells #[.bool a0_0, .slice A0_1 l0_1.length c0_1, .slice A0_2 l0_2.length c0_2] 39) ∧ W.drew.heap[w.heap.size + 1]? = some (.cells #[.bool a1_0, .slice A1_1 l1_1.length c1_1, .slice A1_2 l1_2.length c1_2] 39) ∧ W.drew.heap[w.heap.size + 1 + 1]? = some (.cells #[.bool false, .slice none 0 0, .slice none 0 0] 39)) := ⟨hB0, hB1, hB2⟩
  have B0 : Aside0 (Below w.heap.size w W.drew) := ⟨hbel.trans (Below.refl _ W).drew⟩
  have hS0 : W.drew.cell? ⟨w.heap.size, 0, none⟩ = some (.bool a0_0) ∧ W.drew.cell? ⟨w.heap.size, 1, none⟩ = some (.slice A0_1 l0_1.length c0_1) ∧ W.drew.cell? ⟨w.heap.size, 2, none⟩ = some (.slice A0_2 l0_2.length c0_2) ∧ W.drew.cell? ⟨w.heap.size + 1, 0, none⟩ = some (.bool a1_0) ∧ W.drew.cell? ⟨w.heap.size + 1, 1, none⟩ = some (.slice A1_1 l1_1.length c1_1) ∧ W.drew.cell? ⟨w.heap.size + 1, 2, none⟩ = some (.slice A1_2 l1_2.length c1_2) := z23q hB0 hB1
  clear hB0 hB1 hB2 hbel
  go_region_held3 (fun w' => w'.cell? ⟨w.heap.size, 0, none⟩ = some (.bool a0_0) ∧ w'.cell? ⟨w.heap.size, 1, none⟩ = some (.slice A0_1 l0_1.length c0_1) ∧ w'.cell? ⟨w.heap.size, 2, none⟩ = some (.slice A0_2 l0_2.length c0_2) ∧ w'.cell? ⟨w.heap.size + 1, 0, none⟩ = some (.bool a1_0) ∧ w'.cell? ⟨w.heap.size + 1, 1, none⟩ = some (.slice A1_1 l1_1.length c1_1) ∧ w'.cell? ⟨w.heap.size + 1, 2, none⟩ = some (.slice A1_2 l1_2.length c1_2)) (first | assumption | go_keep) (first
    | (go_at_call 25; (with_reducible refine (rat_over.calls k a0_0 A0_1 c0_1 l0_1 A0_2 c0_2 l0_2 a1_0 A1_1 c1_1 l1_1 A1_2 c1_2 l1_2 p1 p2 _ (Kd.C_below HR0_1.out.2 B0.out) HR0_1.out.1 (Kd.C_below HR0_2.out.2 B0.out) HR0_2.out.1 (Kd.C_below HR1_1.out.2 B0.out) HR1_1.out.1 (Kd.C_below HR1_2.out.2 B0.out) HR1_2.out.1 H0.out).mono ?_); rintro e w1 ⟨v1, rfl, hv, hb⟩; obtain ⟨A1, c1, rfl, hl, hC⟩ := Kd.R_reads hv; have B1 : Aside0 (Below w.heap.size w w1) := ⟨B0.out.trans (hb.mono B0.out.size)⟩; have X1 : Aside0 (w1.heap[w.heap.size]? = some (.cells #[.bool a0_0, .slice A0_1 l0_1.length c0_1, .slice A0_2 l0_2.length c0_2] 39) ∧ w1.heap[w.heap.size + 1]? = some (.cells #[.bool a1_0, .slice A1_1 l1_1.length c1_1, .slice A1_2 l1_2.length c1_2] 39) ∧ w1.heap[w.heap.size + 1 + 1]? = some (.cells #[.bool false, .slice none 0 0, .slice none 0 0] 39)) := ⟨z09q X0.out.1 hb, z09q X0.out.2.1 hb, z09q X0.out.2.2 hb⟩; have hS1 : w1.cell? ⟨w.heap.size, 0, none⟩ = some (.bool a0_0) ∧ w1.cell? ⟨w.heap.size, 1, none⟩ = some (.slice A0_1 l0_1.length c0_1) ∧ w1.cell? ⟨w.heap.size, 2, none⟩ = some (.slice A0_2 l0_2.length c0_2) ∧ w1.cell? ⟨w.heap.size + 1, 0, none⟩ = some (.bool a1_0) ∧ w1.cell? ⟨w.heap.size + 1, 1, none⟩ = some (.slice A1_1 l1_1.length c1_1) ∧ w1.cell? ⟨w.heap.size + 1, 2, none⟩ = some (.slice A1_2 l1_2.length c1_2) := z23q X1.out.1 X1.out.2.1; have Dp1 := Aside0.mk (And.intro hl hC); clear hb hl hC hS0 hv)
    | (go_at_call 25; (with_reducible refine (rat_over.calls k a1_0 A1_1 c1_1 l1_1 A1_2 c1_2 l1_2 a0_0 A0_1 c0_1 l0_1 A0_2 c0_2 l0_2 q1 q2 _ (Kd.C_below HR1_1.out.2 B1.out) HR1_1.out.1 (Kd.C_below HR1_2.out.2 B1.out) HR1_2.out.1 (Kd.C_below HR0_1.out.2 B1.out) HR0_1.out.1 (Kd.C_below HR0_2.out.2 B1.out) HR0_2.out.1 H1.out).mono ?_); rintro e w2 ⟨v2, rfl, hv, hb⟩; obtain ⟨A2, c2, rfl, hl, hC⟩ := Kd.R_reads hv; have B2 : Aside0 (Below w.heap.size w w2) := ⟨B1.out.trans (hb.mono B1.out.size)⟩; have X2 : Aside0 (w2.heap[w.heap.size]? = some (.cells #[.bool a0_0, .slice A0_1 l0_1.length c0_1, .slice A0_2 l0_2.length c0_2] 39) ∧ w2.heap[w.heap.size + 1]? = some (.cells #[.bool a1_0, .slice A1_1 l1_1.length c1_1, .slice A1_2 l1_2.length c1_2] 39) ∧ w2.heap[w.heap.size + 1 + 1]? = some (.cells #[.bool false, .slice none 0 0, .slice none 0 0] 39)) := ⟨z09q X1.out.1 hb, z09q X1.out.2.1 hb, z09q X1.out.2.2 hb⟩; have hS2 : w2.cell? ⟨w.heap.size, 0, none⟩ = some (.bool a0_0) ∧ w2.cell? ⟨w.heap.size, 1, none⟩ = some (.slice A0_1 l0_1.length c0_1) ∧ w2.cell? ⟨w.heap.size, 2, none⟩ = some (.slice A0_2 l0_2.length c0_2) ∧ w2.cell? ⟨w.heap.size + 1, 0, none⟩ = some (.bool a1_0) ∧ w2.cell? ⟨w.heap.size + 1, 1, none⟩ = some (.slice A1_1 l1_1.length c1_1) ∧ w2.cell? ⟨w.heap.size + 1, 2, none⟩ = some (.slice A1_2 l1_2.length c1_2) := z23q X2.out.1 X2.out.2.1; have Dp2 := Aside0.mk (And.intro Dp1.out.1 (Kd.C_below Dp1.out.2 hb)); have Dq2 := Aside0.mk (And.intro hl hC); clear hb hl hC hS1 hv)
    | (go_at_call 41; (with_reducible refine (whole_Add.calls k p1 A1 c1 p2 q1 A2 c2 q2 s1 s2 _ Dp2.out.2 Dp2.out.1 Dq2.out.2 Dq2.out.1 H2.out).mono ?_); rintro e w3 ⟨v3, rfl, hv, hb⟩; obtain ⟨A3, c3, rfl, hl, hC⟩ := Kd.R_reads hv; have B3 : Aside0 (Below w.heap.size w w3) := ⟨B2.out.trans (hb.mono B2.out.size)⟩; have X3 : Aside0 (w3.heap[w.heap.size]? = some (.cells #[.bool a0_0, .slice A0_1 l0_1.length c0_1, .slice A0_2 l0_2.length c0_2] 39) ∧ w3.heap[w.heap.size + 1]? = some (.cells #[.bool a1_0, .slice A1_1 l1_1.length c1_1, .slice A1_2 l1_2.length c1_2] 39) ∧ w3.heap[w.heap.size + 1 + 1]? = some (.cells #[.bool false, .slice none 0 0, .slice none 0 0] 39)) := ⟨z09q X2.out.1 hb, z09q X2.out.2.1 hb, z09q X2.out.2.2 hb⟩; have hS3 : w3.cell? ⟨w.heap.size, 0, none⟩ = some (.bool a0_0) ∧ w3.cell? ⟨w.heap.size, 1, none⟩ = some (.slice A0_1 l0_1.length c0_1) ∧ w3.cell? ⟨w.heap.size, 2, none⟩ = some (.slice A0_2 l0_2.length c0_2) ∧ w3.cell? ⟨w.heap.size + 1, 0, none⟩ = some (.bool a1_0) ∧ w3.cell? ⟨w.heap.size + 1, 1, none⟩ = some (.slice A1_1 l1_1.length c1_1) ∧ w3.cell? ⟨w.heap.size + 1, 2, none⟩ = some (.slice A1_2 l1_2.length c1_2) := z23q X3.out.1 X3.out.2.1; have Dp3 := Aside0.mk (And.intro Dp2.out.1 (Kd.C_below Dp2.out.2 hb)); have Dq3 := Aside0.mk (And.intro Dq2.out.1 (Kd.C_below Dq2.out.2 hb)); have Ds3 := Aside0.mk (And.intro hl hC); clear hb hl hC hS2 hv)
    | (go_at_call 43; (with_reducible refine (rat_den.reads k a0_0 A0_1 l0_1.length c0_1 A0_2 c0_2 l0_2 da _ (Kd.C_below HR0_2.out.2 B3.out) HR0_2.out.1 H3.out).mono ?_); rintro e w4 ⟨A4, c4, rfl, hl, hC, hb⟩; have B4 : Aside0 (Below w.heap.size w w4) := ⟨B3.out.trans (hb.mono B3.out.size)⟩; have X4 : Aside0 (w4.heap[w.heap.size]? = some (.cells #[.bool a0_0, .slice A0_1 l0_1.length c0_1, .slice A0_2 l0_2.length c0_2] 39) ∧ w4.heap[w.heap.size + 1]? = some (.cells #[.bool a1_0, .slice A1_1 l1_1.length c1_1, .slice A1_2 l1_2.length c1_2] 39) ∧ w4.heap[w.heap.size + 1 + 1]? = some (.cells #[.bool false, .slice none 0 0, .slice none 0 0] 39)) := ⟨z09q X3.out.1 hb, z09q X3.out.2.1 hb, z09q X3.out.2.2 hb⟩; have hS4 : w4.cell? ⟨w.heap.size, 0, none⟩ = some (.bool a0_0) ∧ w4.cell? ⟨w.heap.size, 1, none⟩ = some (.slice A0_1 l0_1.length c0_1) ∧ w4.cell? ⟨w.heap.size, 2, none⟩ = some (.slice A0_2 l0_2.length c0_2) ∧ w4.cell? ⟨w.heap.size + 1, 0, none⟩ = some (.bool a1_0) ∧ w4.cell? ⟨w.heap.size + 1, 1, none⟩ = some (.slice A1_1 l1_1.length c1_1) ∧ w4.cell? ⟨w.heap.size + 1, 2, none⟩ = some (.slice A1_2 l1_2.length c1_2) := z23q X4.out.1 X4.out.2.1; have Dp4 := Aside0.mk (And.intro Dp3.out.1 (Kd.C_below Dp3.out.2 hb)); have Dq4 := Aside0.mk (And.intro Dq3.out.1 (Kd.C_below Dq3.out.2 hb)); have Ds4 := Aside0.mk (And.intro Ds3.out.1 (Kd.C_below Ds3.out.2 hb)); have Dda4 := Aside0.mk (And.intro hl hC); clear hb hl hC hS3)
    | (go_at_call 43; (with_reducible refine (rat_den.reads k a1_0 A1_1 l1_1.length c1_1 A1_2 c1_2 l1_2 db _ (Kd.C_below HR1_2.out.2 B4.out) HR1_2.out.1 H4.out).mono ?_); rintro e w5 ⟨A5, c5, rfl, hl, hC, hb⟩; have B5 : Aside0 (Below w.heap.size w w5) := ⟨B4.out.trans (hb.mono B4.out.size)⟩; have X5 : Aside0 (w5.heap[w.heap.size]? = some (.cells #[.bool a0_0, .slice A0_1 l0_1.length c0_1, .slice A0_2 l0_2.length c0_2] 39) ∧ w5.heap[w.heap.size + 1]? = some (.cells #[.bool a1_0, .slice A1_1 l1_1.length c1_1, .slice A1_2 l1_2.length c1_2] 39) ∧ w5.heap[w.heap.size + 1 + 1]? = some (.cells #[.bool false, .slice none 0 0, .slice none 0 0] 39)) := ⟨z09q X4.out.1 hb, z09q X4.out.2.1 hb, z09q X4.out.2.2 hb⟩; have hS5 : w5.cell? ⟨w.heap.size, 0, none⟩ = some (.bool a0_0) ∧ w5.cell? ⟨w.heap.size, 1, none⟩ = some (.slice A0_1 l0_1.length c0_1) ∧ w5.cell? ⟨w.heap.size, 2, none⟩ = some (.slice A0_2 l0_2.length c0_2) ∧ w5.cell? ⟨w.heap.size + 1, 0, none⟩ = some (.bool a1_0) ∧ w5.cell? ⟨w.heap.size + 1, 1, none⟩ = some (.slice A1_1 l1_1.length c1_1) ∧ w5.cell? ⟨w.heap.size + 1, 2, none⟩ = some (.slice A1_2 l1_2.length c1_2) := z23q X5.out.1 X5.out.2.1; have Dp5 := Aside0.mk (And.intro Dp4.out.1 (Kd.C_below Dp4.out.2 hb)); have Dq5 := Aside0.mk (And.intro Dq4.out.1 (Kd.C_below Dq4.out.2 hb)); have Ds5 := Aside0.mk (And.intro Ds4.out.1 (Kd.C_below Ds4.out.2 hb)); have Dda5 := Aside0.mk (And.intro Dda4.out.1 (Kd.C_below Dda4.out.2 hb)); have Ddb5 := Aside0.mk (And.intro hl hC); clear hb hl hC hS4)
    | (go_at_call 42; (with_reducible refine (nat_Mul.calls k A4 c4 da A5 c5 db m _ Dda5.out.2 Dda5.out.1 Ddb5.out.2 Ddb5.out.1 H5.out).mono ?_); rintro e w6 ⟨v6, rfl, hv, hb⟩; obtain ⟨A6, c6, rfl, hl, hC⟩ := Kd.R_reads hv; have B6 : Aside0 (Below w.heap.size w w6) := ⟨B5.out.trans (hb.mono B5.out.size)⟩; have X6 : Aside0 (w6.heap[w.heap.size]? = some (.cells #[.bool a0_0, .slice A0_1 l0_1.length c0_1, .slice A0_2 l0_2.length c0_2] 39) ∧ w6.heap[w.heap.size + 1]? = some (.cells #[.bool a1_0, .slice A1_1 l1_1.length c1_1, .slice A1_2 l1_2.length c1_2] 39) ∧ w6.heap[w.heap.size + 1 + 1]? = some (.cells #[.bool false, .slice none 0 0, .slice none 0 0] 39)) := ⟨z09q X5.out.1 hb, z09q X5.out.2.1 hb, z09q X5.out.2.2 hb⟩; have hS6 : w6.cell? ⟨w.heap.size, 0, none⟩ = some (.bool a0_0) ∧ w6.cell? ⟨w.heap.size, 1, none⟩ = some (.slice A0_1 l0_1.length c0_1) ∧ w6.cell? ⟨w.heap.size, 2, none⟩ = some (.slice A0_2 l0_2.length c0_2) ∧ w6.cell? ⟨w.heap.size + 1, 0, none⟩ = some (.bool a1_0) ∧ w6.cell? ⟨w.heap.size + 1, 1, none⟩ = some (.slice A1_1 l1_1.length c1_1) ∧ w6.cell? ⟨w.heap.size + 1, 2, none⟩ = some (.slice A1_2 l1_2.length c1_2) := z23q X6.out.1 X6.out.2.1; have Dp6 := Aside0.mk (And.intro Dp5.out.1 (Kd.C_below Dp5.out.2 hb)); have Dq6 := Aside0.mk (And.intro Dq5.out.1 (Kd.C_below Dq5.out.2 hb)); have Ds6 := Aside0.mk (And.intro Ds5.out.1 (Kd.C_below Ds5.out.2 hb)); have Dda6 := Aside0.mk (And.intro Dda5.out.1 (Kd.C_below Dda5.out.2 hb)); have Ddb6 := Aside0.mk (And.intro Ddb5.out.1 (Kd.C_below Ddb5.out.2 hb)); have Dm6 := Aside0.mk (And.intro hl hC); clear hb hl hC hS5 hv)
    | (go_at_call 28; (with_reducible refine (rat_Make.calls k s1 A3 c3 s2 A6 c6 m z1 z2 z3 _ Ds6.out.2 Ds6.out.1 Dm6.out.2 Dm6.out.1 H6.out).mono ?_); rintro e w7 ⟨v7, u7, rfl, hv, hu, hb⟩; obtain ⟨A7, c7, rfl, hl, hC⟩ := Kd.R_reads hv; obtain ⟨E7, g7, rfl, hl', hC'⟩ := Kd.R_reads hu; have B7 : Aside0 (Below w.heap.size w w7) := ⟨B6.out.trans (hb.mono B6.out.size)⟩; have X7 : Aside0 (w7.heap[w.heap.size]? = some (.cells #[.bool a0_0, .slice A0_1 l0_1.length c0_1, .slice A0_2 l0_2.length c0_2] 39) ∧ w7.heap[w.heap.size + 1]? = some (.cells #[.bool a1_0, .slice A1_1 l1_1.length c1_1, .slice A1_2 l1_2.length c1_2] 39) ∧ w7.heap[w.heap.size + 1 + 1]? = some (.cells #[.bool false, .slice none 0 0, .slice none 0 0] 39)) := ⟨z09q X6.out.1 hb, z09q X6.out.2.1 hb, z09q X6.out.2.2 hb⟩; have hS7 : w7.cell? ⟨w.heap.size, 0, none⟩ = some (.bool a0_0) ∧ w7.cell? ⟨w.heap.size, 1, none⟩ = some (.slice A0_1 l0_1.length c0_1) ∧ w7.cell? ⟨w.heap.size, 2, none⟩ = some (.slice A0_2 l0_2.length c0_2) ∧ w7.cell? ⟨w.heap.size + 1, 0, none⟩ = some (.bool a1_0) ∧ w7.cell? ⟨w.heap.size + 1, 1, none⟩ = some (.slice A1_1 l1_1.length c1_1) ∧ w7.cell? ⟨w.heap.size + 1, 2, none⟩ = some (.slice A1_2 l1_2.length c1_2) := z23q X7.out.1 X7.out.2.1; have Dp7 := Aside0.mk (And.intro Dp6.out.1 (Kd.C_below Dp6.out.2 hb)); have Dq7 := Aside0.mk (And.intro Dq6.out.1 (Kd.C_below Dq6.out.2 hb)); have Ds7 := Aside0.mk (And.intro Ds6.out.1 (Kd.C_below Ds6.out.2 hb)); have Dda7 := Aside0.mk (And.intro Dda6.out.1 (Kd.C_below Dda6.out.2 hb)); have Ddb7 := Aside0.mk (And.intro Ddb6.out.1 (Kd.C_below Ddb6.out.2 hb)); have Dm7 := Aside0.mk (And.intro Dm6.out.1 (Kd.C_below Dm6.out.2 hb)); have V := Aside0.mk hv; have U := Aside0.mk hu; have q0 : w7.cell? ⟨w.heap.size + 1 + 1, 0, none⟩ = some (.bool false) := (z04q X7.out.2.2 0).trans rfl; have f0 := z08q X7.out.2.2 0; have q1 : w7.cell? ⟨w.heap.size + 1 + 1, 1, none⟩ = some (.slice none 0 0) := (z04q X7.out.2.2 1).trans rfl; have f1 := z08q X7.out.2.2 1; have q2 : w7.cell? ⟨w.heap.size + 1 + 1, 2, none⟩ = some (.slice none 0 0) := (z04q X7.out.2.2 2).trans rfl; have f2 := z08q X7.out.2.2 2; have hSf : (((w7.setCell ⟨w.heap.size + 1 + 1, 0, none⟩ (.bool z1)).setCell ⟨w.heap.size + 1 + 1, 1, none⟩ (.slice A7 z2.length c7)).setCell ⟨w.heap.size + 1 + 1, 2, none⟩ (.slice E7 z3.length g7)).cell? ⟨w.heap.size, 0, none⟩ = some (.bool a0_0) ∧ (((w7.setCell ⟨w.heap.size + 1 + 1, 0, none⟩ (.bool z1)).setCell ⟨w.heap.size + 1 + 1, 1, none⟩ (.slice A7 z2.length c7)).setCell ⟨w.heap.size + 1 + 1, 2, none⟩ (.slice E7 z3.length g7)).cell? ⟨w.heap.size, 1, none⟩ = some (.slice A0_1 l0_1.length c0_1) ∧ (((w7.setCell ⟨w.heap.size + 1 + 1, 0, none⟩ (.bool z1)).setCell ⟨w.heap.size + 1 + 1, 1, none⟩ (.slice A7 z2.length c7)).setCell ⟨w.heap.size + 1 + 1, 2, none⟩ (.slice E7 z3.length g7)).cell? ⟨w.heap.size, 2, none⟩ = some (.slice A0_2 l0_2.length c0_2) ∧ (((w7.setCell ⟨w.heap.size + 1 + 1, 0, none⟩ (.bool z1)).setCell ⟨w.heap.size + 1 + 1, 1, none⟩ (.slice A7 z2.length c7)).setCell ⟨w.heap.size + 1 + 1, 2, none⟩ (.slice E7 z3.length g7)).cell? ⟨w.heap.size + 1, 0, none⟩ = some (.bool a1_0) ∧ (((w7.setCell ⟨w.heap.size + 1 + 1, 0, none⟩ (.bool z1)).setCell ⟨w.heap.size + 1 + 1, 1, none⟩ (.slice A7 z2.length c7)).setCell ⟨w.heap.size + 1 + 1, 2, none⟩ (.slice E7 z3.length g7)).cell? ⟨w.heap.size + 1, 1, none⟩ = some (.slice A1_1 l1_1.length c1_1) ∧ (((w7.setCell ⟨w.heap.size + 1 + 1, 0, none⟩ (.bool z1)).setCell ⟨w.heap.size + 1 + 1, 1, none⟩ (.slice A7 z2.length c7)).setCell ⟨w.heap.size + 1 + 1, 2, none⟩ (.slice E7 z3.length g7)).cell? ⟨w.heap.size + 1, 2, none⟩ = some (.slice A1_2 l1_2.length c1_2) := z23q ((Below.heap_setCell _ _ _ _ (by simp; omega)).trans ((Below.heap_setCell _ _ _ _ (by simp; omega)).trans ((Below.heap_setCell _ _ _ _ (by simp; omega)).trans X7.out.1))) ((Below.heap_setCell _ _ _ _ (by simp)).trans ((Below.heap_setCell _ _ _ _ (by simp)).trans ((Below.heap_setCell _ _ _ _ (by simp)).trans X7.out.2.1))); clear hl' hC' hu; clear hb hl hC hS6 hv))
  go_wp2
  refine bodyPost_ret (results_cell_row rfl _ _ (w.heap.size + 1 + 1) 39 #[.bool z1, .slice A7 z2.length c7, .slice E7 z3.length g7] (0, 0) _ rfl (blk_put (cs := #[.bool z1, .slice A7 z2.length c7, .slice none 0 0]) (blk_put (cs := #[.bool z1, .slice none 0 0, .slice none 0 0]) (blk_put (cs := #[.bool false, .slice none 0 0, .slice none 0 0]) X7.out.2.2 0 _ rfl) 1 _ rfl) 2 _ rfl) Try.underlying39 rfl (by kernel_rfl)) rfl ?_
  have s3 : w.heap.size + 1 + 1 < w6.heap.size := blk_lt X6.out.2.2
  refine ⟨_, _, rfl, ?_, ?_, ((B7.out.setCell (p := ⟨w.heap.size + 1 + 1, 0, none⟩) (by simp; omega) _).setCell (p := ⟨w.heap.size + 1 + 1, 1, none⟩) (by simp; omega) _).setCell (p := ⟨w.heap.size + 1 + 1, 2, none⟩) (by simp; omega) _⟩
  · exact Kd.R_lower (Kd.R_mono (Kd.R_far (p := ⟨w.heap.size + 1 + 1, 2, none⟩) (Kd.R_far (p := ⟨w.heap.size + 1 + 1, 1, none⟩) (Kd.R_far (p := ⟨w.heap.size + 1 + 1, 0, none⟩) (Kd.R_bound V.out) (fun k hk => by have := hk.2.1; show k ≠ w.heap.size + 1 + 1; omega) _) (fun k hk => by have := hk.2.1; show k ≠ w.heap.size + 1 + 1; omega) _) (fun k hk => by have := hk.2.1; show k ≠ w.heap.size + 1 + 1; omega) _) (fun _ hk => hk.1)) (by omega)
  · exact Kd.R_lower (Kd.R_mono (Kd.R_far (p := ⟨w.heap.size + 1 + 1, 2, none⟩) (Kd.R_far (p := ⟨w.heap.size + 1 + 1, 1, none⟩) (Kd.R_far (p := ⟨w.heap.size + 1 + 1, 0, none⟩) (Kd.R_bound U.out) (fun k hk => by have := hk.2.1; show k ≠ w.heap.size + 1 + 1; omega) _) (fun k hk => by have := hk.2.1; show k ≠ w.heap.size + 1 + 1; omega) _) (fun k hk => by have := hk.2.1; show k ≠ w.heap.size + 1 + 1; omega) _) (fun _ hk => hk.1)) (by omega)
def rat_Int.f (k : Nat) (a0 : Int) : Option (Bool × List Int × List Int) := (whole_Of.f k a0).bind fun bt285 => ((nat_Of.f k 1).bind fun t289 => ((rat_Make.f k bt285.1 bt285.2 t289).bind fun bt292 => (some (bt292.1, bt292.2.1, bt292.2.2))))
theorem rat_Int.mono : ∀ a0 k, LeO (rat_Int.f k a0) (rat_Int.f (k + 1) a0) := by
  intro a0 k
  unfold rat_Int.f
  repeat' first
      | (with_reducible exact nat_Of.mono _ _)
      | (with_reducible exact rat_Make.mono _ _ _ _)
      | (with_reducible exact whole_Of.mono _ _)
      | (with_reducible exact LeO.refl _)
      | (with_reducible exact LeO.none _)
      | (with_reducible refine LeO.ite ?_ ?_)
      | (with_reducible refine LeO.bind ?_ (fun _ => ?_))
      | exact nat_Of.mono _ _
      | exact rat_Make.mono _ _ _ _
      | exact whole_Of.mono _ _
      | exact LeO.none _
      | refine LeO.ite ?_ ?_
      | refine LeO.bind ?_ (fun _ => ?_)
set_option maxHeartbeats 8000000 in
set_option maxRecDepth 100000 in
theorem rat_Int.calls (k : Nat) (a0 : Int) (r1 : Bool) (r2 : List Int) (r3 : List Int) (w : World) (h : rat_Int.f k a0 = some (r1, r2, r3)) :
    Calls Try.prog 21 #[.int .i64 a0] w fun e w' => ∃ v1_ v2_ : Value, e = .returned (.agg #[.bool r1, v1_, v2_]) ∧ Kd.R (Kd.int .u32) 96 w' w.heap.size (fun k_ => some k_ ≠ (v2_ : Value).ownBlock) v1_ r2 ∧ Kd.R (Kd.int .u32) 96 w' w.heap.size (fun k_ => some k_ ≠ (v1_ : Value).ownBlock) v2_ r3 ∧ Below w.heap.size w w' := by
  have hu39 := Try.underlying39
  have HB := Aside0.mk (Below.refl w.heap.size w)
  have H : ((whole_Of.f k a0).bind fun bt285 => ((nat_Of.f k 1).bind fun t289 => ((rat_Make.f k bt285.1 bt285.2 t289).bind fun bt292 => (some (bt292.1, bt292.2.1, bt292.2.2))))) = some (r1, r2, r3) := h
  clear h
  replace H := Option.bind_eq_some_iff.mp H
  obtain ⟨⟨t285, t286⟩, A20, H⟩ := H
  replace H : ((nat_Of.f k 1).bind fun t289 => ((rat_Make.f k t285 t286 t289).bind fun bt292 => (some (bt292.1, bt292.2.1, bt292.2.2)))) = some (r1, r2, r3) := H
  have A2 := Aside0.mk A20
  clear A20
  replace H := Option.bind_eq_some_iff.mp H
  obtain ⟨t289, A30, H⟩ := H
  replace H : ((rat_Make.f k t285 t286 t289).bind fun bt292 => (some (bt292.1, bt292.2.1, bt292.2.2))) = some (r1, r2, r3) := H
  have A3 := Aside0.mk A30
  clear A30
  replace H := Option.bind_eq_some_iff.mp H
  obtain ⟨⟨t292, t293, t296⟩, A40, H⟩ := H
  replace H : (some (t292, t293, t296)) = some (r1, r2, r3) := H
  have A4 := Aside0.mk A40
  clear A40
  simp only [Option.some.injEq, Prod.mk.injEq] at H
  obtain ⟨rfl, rfl, rfl⟩ := H
  go_enter Try.func21, Try.ntmps21
  go_wp2_with (first | ((with_reducible refine z18q (N := 2) rfl ?_); refine z17q ?hg (N := 2) ?hd (cs := #[.bool false, .slice none 0 0, .slice none 0 0]) (t := 39) ?hr ?_; (case hd => rfl); (case hg => rfl); (case hr => first | (go_simp; done) | (go_simp; rfl)); intro gb284 hg w5 hbox hb; have n0_ := Aside0.mk (z11q (by repeat (first | (with_reducible first | exact HB.out | apply z02q | apply z00q | apply z01q) | exact HB.out)) hb); have n1_ := Aside0.mk (hbox); have n2_ := Aside0.mk ((by rw [hg]; exact (z10q (by repeat (first | (with_reducible first | exact HB.out | apply z02q | apply z00q | apply z01q) | exact HB.out))) : w.heap.size ≤ gb284)); have n3_ := Aside0.mk ((by rw [hg]; exact (z10q (by repeat (first | (with_reducible first | exact HB.out | apply z02q | apply z00q | apply z01q) | exact HB.out))) : w.heap.size ≤ gb284)); clear HB; have HB := n0_; have BK284 := n1_; have GW284 := n2_; have GE284 := n3_; clear n0_ n1_ n2_ n3_; clear hb hbox hg) | ((with_reducible refine z16q (f := 37) rfl ?_); refine goesL_ (some 4) rfl rfl Try.func37 (by kernel_rfl) rfl #[.int .i64 a0] rfl (by (try simp only [List.map_toArray, List.map_cons, List.map_nil]); first | done | rfl | (simp only [List.length_drop, List.length_take]; rfl)) ?_; (with_reducible refine (whole_Of.calls k a0 t285 t286 _ A2.out).mono ?_); rintro e w6 ⟨v287, rfl, ho0, hb⟩; refine ⟨_, rfl, ?_⟩; have n0_ := Aside0.mk (Kd.R_lower ho0 (z10q (by repeat (first | (with_reducible first | exact HB.out | apply z02q | apply z00q | apply z01q | refine z03q ?_ GE284.out) | exact HB.out)))); have n1_ := Aside0.mk (z09q (g := gb284) (o := .cells #[.bool false, .slice none 0 0, .slice none 0 0] 39 (0, 0)) (by (with_reducible repeat (first | refine z06q ?_ _ | refine z07q ?_ | refine z05q ?_ _)); exact BK284.out) hb); have n2_ := Aside0.mk (z11q (by repeat (first | (with_reducible first | exact HB.out | apply z02q | apply z00q | apply z01q | refine z03q ?_ GE284.out) | exact HB.out)) hb); clear BK284; clear HB; have HO288 := n0_; have BK284 := n1_; have HB := n2_; clear n0_ n1_ n2_; (try clear hb); (try clear hb2); (try clear hk); (try clear hi); (try clear ho0)) | ((with_reducible refine z16q (f := 38) rfl ?_); refine goesL_ (some 5) rfl rfl Try.func38 (by kernel_rfl) rfl #[.int .u64 1] rfl (by (try simp only [List.map_toArray, List.map_cons, List.map_nil]); first | done | rfl | (simp only [List.length_drop, List.length_take]; rfl)) ?_; (with_reducible refine (nat_Of.calls k 1 t289 _ A3.out).mono ?_); rintro e w7 ⟨v290, rfl, ho0, hb⟩; refine ⟨_, rfl, ?_⟩; have n0_ := Aside0.mk (Kd.R_elder' (by (with_reducible repeat (first | apply Kd.R_alloc | apply Kd.R_drewN | apply Kd.R_drew)); exact HO288.out) (Kd.R_base ho0) hb); have n1_ := Aside0.mk (Kd.R_lower (Kd.R_new' ho0 (Kd.R_lt (by (with_reducible repeat (first | apply Kd.R_alloc | apply Kd.R_drewN | apply Kd.R_drew)); exact HO288.out))) (z10q (by repeat (first | (with_reducible first | exact HB.out | apply z02q | apply z00q | apply z01q | refine z03q ?_ GE284.out) | exact HB.out)))); have n2_ := Aside0.mk (z09q (g := gb284) (o := .cells #[.bool false, .slice none 0 0, .slice none 0 0] 39 (0, 0)) (by (with_reducible repeat (first | refine z06q ?_ _ | refine z07q ?_ | refine z05q ?_ _)); exact BK284.out) hb); have n3_ := Aside0.mk (z11q (by repeat (first | (with_reducible first | exact HB.out | apply z02q | apply z00q | apply z01q | refine z03q ?_ GE284.out) | exact HB.out)) hb); clear HO288; clear BK284; clear HB; have HO288 := n0_; have HO291 := n1_; have BK284 := n2_; have HB := n3_; clear n0_ n1_ n2_ n3_; (try clear hb); (try clear hb2); (try clear hk); (try clear hi); (try clear ho0); obtain ⟨Ao8, co8, eo8⟩ := Kd.R_slice HO288.out; subst eo8; obtain ⟨Ao9, co9, eo9⟩ := Kd.R_slice HO291.out; subst eo9) | ((with_reducible refine z16q (f := 28) rfl ?_); refine goesL_ (some 6) rfl rfl Try.func28 (by kernel_rfl) rfl #[.agg #[.bool t285, .slice Ao8 t286.length co8], .slice Ao9 t289.length co9] rfl (by (try simp only [List.map_toArray, List.map_cons, List.map_nil]); first | done | rfl | (simp only [List.length_drop, List.length_take]; rfl)) ?_; (with_reducible refine (rat_Make.calls k t285 _ _ t286 _ _ t289 t292 t293 t296 _ ?side1 ?side2 ?side3 ?side4 A4.out).mono ?_); (case side1 => repeat (first | exact (Kd.R_reads' HO288.out).2.2 | (with_reducible refine Kd.C_alloc ?_ _) | (with_reducible refine Kd.C_drewN ?_ _) | (with_reducible refine Kd.C_drew ?_))); (case side2 => exact (Kd.R_reads' HO288.out).2.1); (case side3 => repeat (first | exact (Kd.R_reads' HO291.out).2.2 | (with_reducible refine Kd.C_alloc ?_ _) | (with_reducible refine Kd.C_drewN ?_ _) | (with_reducible refine Kd.C_drew ?_))); (case side4 => exact (Kd.R_reads' HO291.out).2.1); rintro e w10 ⟨v294, v297, rfl, ho0, ho1, hb⟩; refine ⟨_, rfl, ?_⟩; have n0_ := Aside0.mk (Kd.R_mono (Kd.R_told (Kd.R_told (Kd.R_old (by (with_reducible repeat (first | apply Kd.R_alloc | apply Kd.R_drewN | apply Kd.R_drew)); exact HO288.out) hb) (Kd.R_base ho0)) (Kd.R_base ho1)) (fun _ h_ => h_.1)); have n1_ := Aside0.mk (Kd.R_mono (Kd.R_told (Kd.R_told (Kd.R_old (by (with_reducible repeat (first | apply Kd.R_alloc | apply Kd.R_drewN | apply Kd.R_drew)); exact HO291.out) hb) (Kd.R_base ho0)) (Kd.R_base ho1)) (fun _ h_ => h_.1)); have n2_ := Aside0.mk (Kd.R_lower (Kd.R_new' (Kd.R_new' ho0 (Kd.R_lt (by (with_reducible repeat (first | apply Kd.R_alloc | apply Kd.R_drewN | apply Kd.R_drew)); exact HO288.out))) (Kd.R_lt (by (with_reducible repeat (first | apply Kd.R_alloc | apply Kd.R_drewN | apply Kd.R_drew)); exact HO291.out))) (z10q (by repeat (first | (with_reducible first | exact HB.out | apply z02q | apply z00q | apply z01q | refine z03q ?_ GE284.out) | exact HB.out)))); have n3_ := Aside0.mk (Kd.R_lower (Kd.R_new' (Kd.R_new' ho1 (Kd.R_lt (by (with_reducible repeat (first | apply Kd.R_alloc | apply Kd.R_drewN | apply Kd.R_drew)); exact HO288.out))) (Kd.R_lt (by (with_reducible repeat (first | apply Kd.R_alloc | apply Kd.R_drewN | apply Kd.R_drew)); exact HO291.out))) (z10q (by repeat (first | (with_reducible first | exact HB.out | apply z02q | apply z00q | apply z01q | refine z03q ?_ GE284.out) | exact HB.out)))); have n4_ := Aside0.mk (z09q (g := gb284) (o := .cells #[.bool false, .slice none 0 0, .slice none 0 0] 39 (0, 0)) (by (with_reducible repeat (first | refine z06q ?_ _ | refine z07q ?_ | refine z05q ?_ _)); exact BK284.out) hb); have n5_ := Aside0.mk (z11q (by repeat (first | (with_reducible first | exact HB.out | apply z02q | apply z00q | apply z01q | refine z03q ?_ GE284.out) | exact HB.out)) hb); clear HO288; clear HO291; clear BK284; clear HB; have HO288 := n0_; have HO291 := n1_; have HO295 := n2_; have HO298 := n3_; have BK284 := n4_; have HB := n5_; clear n0_ n1_ n2_ n3_ n4_ n5_; (try clear hb); (try clear hb2); (try clear hk); (try clear hi); (try clear ho0); (try clear ho1); have hcz11_0 : w10.cell? ⟨gb284, 0, none⟩ = some (.bool false) := (z04q BK284.out 0).trans rfl; have hcz11_1 : w10.cell? ⟨gb284, 1, none⟩ = some (.slice none 0 0) := (z04q BK284.out 1).trans rfl; have hcz11_2 : w10.cell? ⟨gb284, 2, none⟩ = some (.slice none 0 0) := (z04q BK284.out 2).trans rfl; have hfz11_0 := z08q BK284.out 0; have hfz11_1 := z08q BK284.out 1; have hfz11_2 := z08q BK284.out 2; obtain ⟨Ao12, co12, eo12⟩ := Kd.R_slice HO295.out; subst eo12; obtain ⟨Ao13, co13, eo13⟩ := Kd.R_slice HO298.out; subst eo13))
  refine bodyPost_ret (results_cell_row rfl _ _ gb284 39 #[.bool t292, .slice Ao12 t293.length co12, .slice Ao13 t296.length co13] (0, 0) _ rfl (by (with_reducible repeat (first | refine z06q ?_ _ | refine z07q ?_ | refine z05q ?_ _)); refine blk_put (cs := #[.bool t292, .slice Ao12 t293.length co12, .slice none 0 0]) ?_ 2 _ rfl; (with_reducible repeat (first | refine z06q ?_ _ | refine z07q ?_ | refine z05q ?_ _)); refine blk_put (cs := #[.bool t292, .slice none 0 0, .slice none 0 0]) ?_ 1 _ rfl; (with_reducible repeat (first | refine z06q ?_ _ | refine z07q ?_ | refine z05q ?_ _)); refine blk_put (cs := #[.bool false, .slice none 0 0, .slice none 0 0]) ?_ 0 _ rfl; (with_reducible repeat (first | refine z06q ?_ _ | refine z07q ?_ | refine z05q ?_ _)); exact BK284.out) Try.underlying39 rfl (by kernel_rfl)) rfl ?_
  exact ⟨_, _, by first | rfl | (simp [z14q, z13q] <;> rfl) | (simp [*, z14q, z13q] <;> rfl), by (with_reducible repeat (first | apply Kd.R_alloc | apply Kd.R_drewN | apply Kd.R_drew)); exact Kd.R_mono (Kd.R_far (p := ⟨gb284, 2, none⟩) (Kd.R_far (p := ⟨gb284, 1, none⟩) (Kd.R_far (p := ⟨gb284, 0, none⟩) (Kd.R_types HO295.out BK284.out (by decide)) (fun _ hk => hk.2) (.bool t292)) (fun _ hk => hk.2) (.slice Ao12 t293.length co12)) (fun _ hk => hk.2) (.slice Ao13 t296.length co13)) (fun _ hk => hk.1.1.1), by (with_reducible repeat (first | apply Kd.R_alloc | apply Kd.R_drewN | apply Kd.R_drew)); exact Kd.R_mono (Kd.R_far (p := ⟨gb284, 2, none⟩) (Kd.R_far (p := ⟨gb284, 1, none⟩) (Kd.R_far (p := ⟨gb284, 0, none⟩) (Kd.R_types HO298.out BK284.out (by decide)) (fun _ hk => hk.2) (.bool t292)) (fun _ hk => hk.2) (.slice Ao12 t293.length co12)) (fun _ hk => hk.2) (.slice Ao13 t296.length co13)) (fun _ hk => hk.1.1.1), by repeat (first | (with_reducible first | exact HB.out | apply z02q | apply z00q | apply z01q | refine z03q ?_ GE284.out) | exact HB.out)⟩
def rat_Sign.f (k : Nat) (a0_0 : Bool) (l0_1 : List Int) (l0_2 : List Int) : Option (Int) := (whole_Sign.f k a0_0 l0_1).bind fun t300 => (some t300)
theorem rat_Sign.mono : ∀ a0 a1 a2 k, LeO (rat_Sign.f k a0 a1 a2) (rat_Sign.f (k + 1) a0 a1 a2) := by
  intro a0 a1 a2 k
  unfold rat_Sign.f
  repeat' first
      | (with_reducible exact whole_Sign.mono _ _ _)
      | (with_reducible exact LeO.refl _)
      | (with_reducible exact LeO.none _)
      | (with_reducible refine LeO.ite ?_ ?_)
      | (with_reducible refine LeO.bind ?_ (fun _ => ?_))
      | exact whole_Sign.mono _ _ _
      | exact LeO.none _
      | refine LeO.ite ?_ ?_
      | refine LeO.bind ?_ (fun _ => ?_)
set_option maxHeartbeats 8000000 in
set_option maxRecDepth 100000 in
theorem rat_Sign.calls (k : Nat) (a0_0 : Bool) (A0_1 : Option Addr) (c0_1 : Nat) (l0_1 : List Int) (A0_2 : Option Addr) (c0_2 : Nat) (l0_2 : List Int) (r : Int) (w : World) (hr0_1 : Kd.C (Kd.int .u32) w A0_1 l0_1.length l0_1) (hc0_1 : l0_1.length ≤ c0_1) (hr0_2 : Kd.C (Kd.int .u32) w A0_2 l0_2.length l0_2) (hc0_2 : l0_2.length ≤ c0_2) (h : rat_Sign.f k a0_0 l0_1 l0_2 = some r) :
    Calls Try.prog 40 #[.agg #[.bool a0_0, .slice A0_1 l0_1.length c0_1, .slice A0_2 l0_2.length c0_2]] w fun e w' => e = .returned (.int .i64 r) ∧ Below w.heap.size w w' := by
  have hu39 := Try.underlying39
  have hu37 := Try.underlying37
  have HR0_1 := Aside0.mk hr0_1
  have HC0_1 := Aside0.mk hc0_1
  clear hr0_1 hc0_1
  have HR0_2 := Aside0.mk hr0_2
  have HC0_2 := Aside0.mk hc0_2
  clear hr0_2 hc0_2
  have HB := Aside0.mk (Below.refl w.heap.size w)
  have H : ((whole_Sign.f k a0_0 l0_1).bind fun t300 => (some t300)) = some r := h
  clear h
  replace H := Option.bind_eq_some_iff.mp H
  obtain ⟨t300, A20, H⟩ := H
  replace H : (some t300) = some r := H
  have A2 := Aside0.mk A20
  clear A20
  obtain rfl := Option.some.inj H
  go_enter Try.func40, Try.ntmps40
  go_wp2_with (first | ((with_reducible refine z18q (N := 1) rfl ?_); refine z17q ?hg (N := 1) ?hd (cs := #[.bool a0_0, .slice A0_1 l0_1.length c0_1, .slice A0_2 l0_2.length c0_2]) (t := 39) ?hr ?_; (case hd => rfl); (case hg => rfl); (case hr => first | (go_simp; done) | (go_simp; rfl)); intro gb299 hg w3 hbox hb; have n0_ := Aside0.mk (z11q (by repeat (first | (with_reducible first | exact HB.out | apply z02q | apply z00q | apply z01q) | exact HB.out)) hb); have n1_ := Aside0.mk (hbox); have n2_ := Aside0.mk ((by rw [hg]; exact (z10q (by repeat (first | (with_reducible first | exact HB.out | apply z02q | apply z00q | apply z01q) | exact HB.out))) : w.heap.size ≤ gb299)); have n3_ := Aside0.mk ((by rw [hg]; exact (z10q (by repeat (first | (with_reducible first | exact HB.out | apply z02q | apply z00q | apply z01q) | exact HB.out))) : w.heap.size ≤ gb299)); clear HB; have HB := n0_; have BK299 := n1_; have GW299 := n2_; have GE299 := n3_; clear n0_ n1_ n2_ n3_; clear hb hbox hg; have hcz4_0 : w3.cell? ⟨gb299, 0, none⟩ = some (.bool a0_0) := (z04q BK299.out 0).trans rfl; have hcz4_1 : w3.cell? ⟨gb299, 1, none⟩ = some (.slice A0_1 l0_1.length c0_1) := (z04q BK299.out 1).trans rfl; have hcz4_2 : w3.cell? ⟨gb299, 2, none⟩ = some (.slice A0_2 l0_2.length c0_2) := (z04q BK299.out 2).trans rfl; have hfz4_0 := z08q BK299.out 0; have hfz4_1 := z08q BK299.out 1; have hfz4_2 := z08q BK299.out 2) | ((with_reducible refine z16q (f := 44) rfl ?_); refine goesL_ (some 5) rfl rfl Try.func44 (by kernel_rfl) rfl #[.agg #[.bool a0_0, .slice A0_1 l0_1.length c0_1]] rfl (by (try simp only [List.map_toArray, List.map_cons, List.map_nil]); first | done | rfl | (simp only [List.length_drop, List.length_take]; rfl)) ?_; (with_reducible refine (whole_Sign.calls k a0_0 _ _ l0_1 t300 _ ?side1 ?side2 A2.out).mono ?_); (case side1 => repeat (first | exact (Kd.C_below HR0_1.out HB.out) | (with_reducible refine Kd.C_alloc ?_ _) | (with_reducible refine Kd.C_drewN ?_ _) | (with_reducible refine Kd.C_drew ?_))); (case side2 => exact HC0_1.out); rintro e w5 ⟨rfl, hb⟩; refine ⟨_, rfl, ?_⟩; have n0_ := Aside0.mk (z09q (g := gb299) (o := .cells #[.bool a0_0, .slice A0_1 l0_1.length c0_1, .slice A0_2 l0_2.length c0_2] 39 (0, 0)) (by (with_reducible repeat (first | refine z06q ?_ _ | refine z07q ?_ | refine z05q ?_ _)); exact BK299.out) hb); have n1_ := Aside0.mk (z11q (by repeat (first | (with_reducible first | exact HB.out | apply z02q | apply z00q | apply z01q | refine z03q ?_ GE299.out) | exact HB.out)) hb); clear BK299; clear HB; have BK299 := n0_; have HB := n1_; clear n0_ n1_; (try clear hb); (try clear hb2); (try clear hk); (try clear hi)))
  go_ret
  exact ⟨by first | rfl | (simp [z14q, z13q] <;> rfl) | (simp [*, z14q, z13q] <;> rfl), by repeat (first | (with_reducible first | exact HB.out | apply z02q | apply z00q | apply z01q | refine z03q ?_ GE299.out) | exact HB.out)⟩
def rat_Compare.f (k : Nat) (a0_0 : Bool) (l0_1 : List Int) (l0_2 : List Int) (a1_0 : Bool) (l1_1 : List Int) (l1_2 : List Int) : Option (Int) := (rat_over.f k a0_0 l0_1 l0_2 a1_0 l1_1 l1_2).bind fun bt303 => ((rat_over.f k a1_0 l1_1 l1_2 a0_0 l0_1 l0_2).bind fun bt307 => ((whole_Compare.f k bt303.1 bt303.2 bt307.1 bt307.2).bind fun t311 => (some t311)))
theorem rat_Compare.mono : ∀ a0 a1 a2 a3 a4 a5 k, LeO (rat_Compare.f k a0 a1 a2 a3 a4 a5) (rat_Compare.f (k + 1) a0 a1 a2 a3 a4 a5) := by
  intro a0 a1 a2 a3 a4 a5 k
  unfold rat_Compare.f
  repeat' first
      | (with_reducible exact rat_over.mono _ _ _ _ _ _ _)
      | (with_reducible exact whole_Compare.mono _ _ _ _ _)
      | (with_reducible exact LeO.refl _)
      | (with_reducible exact LeO.none _)
      | (with_reducible refine LeO.ite ?_ ?_)
      | (with_reducible refine LeO.bind ?_ (fun _ => ?_))
      | exact rat_over.mono _ _ _ _ _ _ _
      | exact whole_Compare.mono _ _ _ _ _
      | exact LeO.none _
      | refine LeO.ite ?_ ?_
      | refine LeO.bind ?_ (fun _ => ?_)
def rat_Compare.T1 : Bool × List (List Nat × List Nat) := (true, [([], []), ([], []), ([0, 1], [0, 1]), ([], []), ([], []), ([3, 4, 2], [3, 4]), ([2, 5, 5], [2, 5]), ([6, 6, 0, 1, 2, 3, 4, 5, 6], [6])])
def rat_Compare.B1 : List Nat := [0, 0, 3, 0, 0, 31, 63, 127]
theorem rat_Compare.tab1 : rtab .any (opsOf Try.f12 1) = rat_Compare.T1 := by kernel_rfl
theorem rat_Compare.bits1 : waitsOk rat_Compare.T1.2 rat_Compare.B1 = true := by kernel_rfl
set_option maxHeartbeats 8000000 in
set_option maxRecDepth 100000 in
theorem rat_Compare.calls (k : Nat) (a0_0 : Bool) (A0_1 : Option Addr) (c0_1 : Nat) (l0_1 : List Int) (A0_2 : Option Addr) (c0_2 : Nat) (l0_2 : List Int) (a1_0 : Bool) (A1_1 : Option Addr) (c1_1 : Nat) (l1_1 : List Int) (A1_2 : Option Addr) (c1_2 : Nat) (l1_2 : List Int) (r : Int) (w : World) (hr0_1 : Kd.C (Kd.int .u32) w A0_1 l0_1.length l0_1) (hc0_1 : l0_1.length ≤ c0_1) (hr0_2 : Kd.C (Kd.int .u32) w A0_2 l0_2.length l0_2) (hc0_2 : l0_2.length ≤ c0_2) (hr1_1 : Kd.C (Kd.int .u32) w A1_1 l1_1.length l1_1) (hc1_1 : l1_1.length ≤ c1_1) (hr1_2 : Kd.C (Kd.int .u32) w A1_2 l1_2.length l1_2) (hc1_2 : l1_2.length ≤ c1_2) (h : rat_Compare.f k a0_0 l0_1 l0_2 a1_0 l1_1 l1_2 = some r) :
    Calls Try.prog 12 #[.agg #[.bool a0_0, .slice A0_1 l0_1.length c0_1, .slice A0_2 l0_2.length c0_2], .agg #[.bool a1_0, .slice A1_1 l1_1.length c1_1, .slice A1_2 l1_2.length c1_2]] w fun e w' => e = .returned (.int .i64 r) ∧ Below w.heap.size w w' := by
  have hu39 := Try.underlying39
  have HR0_1 := Aside0.mk hr0_1
  have HC0_1 := Aside0.mk hc0_1
  clear hr0_1 hc0_1
  have HR0_2 := Aside0.mk hr0_2
  have HC0_2 := Aside0.mk hc0_2
  clear hr0_2 hc0_2
  have HR1_1 := Aside0.mk hr1_1
  have HC1_1 := Aside0.mk hc1_1
  clear hr1_1 hc1_1
  have HR1_2 := Aside0.mk hr1_2
  have HC1_2 := Aside0.mk hc1_2
  clear hr1_2 hc1_2
  have HB := Aside0.mk (Below.refl w.heap.size w)
  have H : ((rat_over.f k a0_0 l0_1 l0_2 a1_0 l1_1 l1_2).bind fun bt303 => ((rat_over.f k a1_0 l1_1 l1_2 a0_0 l0_1 l0_2).bind fun bt307 => ((whole_Compare.f k bt303.1 bt303.2 bt307.1 bt307.2).bind fun t311 => (some t311)))) = some r := h
  clear h
  replace H := Option.bind_eq_some_iff.mp H
  obtain ⟨⟨t303, t304⟩, A30, H⟩ := H
  replace H : ((rat_over.f k a1_0 l1_1 l1_2 a0_0 l0_1 l0_2).bind fun bt307 => ((whole_Compare.f k t303 t304 bt307.1 bt307.2).bind fun t311 => (some t311))) = some r := H
  have A3 := Aside0.mk A30
  clear A30
  replace H := Option.bind_eq_some_iff.mp H
  obtain ⟨⟨t307, t308⟩, A40, H⟩ := H
  replace H : ((whole_Compare.f k t303 t304 t307 t308).bind fun t311 => (some t311)) = some r := H
  have A4 := Aside0.mk A40
  clear A40
  replace H := Option.bind_eq_some_iff.mp H
  obtain ⟨t311, A50, H⟩ := H
  replace H : (some t311) = some r := H
  have A5 := Aside0.mk A50
  clear A50
  obtain rfl := Option.some.inj H
  go_enter Try.func12, Try.ntmps12
  try go_wp2_with (first | ((with_reducible refine z18q (N := 2) rfl ?_); refine z17q ?hg (N := 2) ?hd (cs := #[.bool a0_0, .slice A0_1 l0_1.length c0_1, .slice A0_2 l0_2.length c0_2]) (t := 39) ?hr ?_; (case hd => rfl); (case hg => rfl); (case hr => first | (go_simp; done) | (go_simp; rfl)); intro gb301 hg w6 hbox hb; have n0_ := Aside0.mk (z11q (by repeat (first | (with_reducible first | exact HB.out | apply z02q | apply z00q | apply z01q) | exact HB.out)) hb); have n1_ := Aside0.mk (hbox); have n2_ := Aside0.mk ((by rw [hg]; exact (z10q (by repeat (first | (with_reducible first | exact HB.out | apply z02q | apply z00q | apply z01q) | exact HB.out))) : w.heap.size ≤ gb301)); have n3_ := Aside0.mk ((by rw [hg]; exact (z10q (by repeat (first | (with_reducible first | exact HB.out | apply z02q | apply z00q | apply z01q) | exact HB.out))) : w.heap.size ≤ gb301)); clear HB; have HB := n0_; have BK301 := n1_; have GW301 := n2_; have GE301 := n3_; clear n0_ n1_ n2_ n3_; clear hb hbox hg) | ((with_reducible refine z18q (N := 3) rfl ?_); refine z17q ?hg (N := 3) ?hd (cs := #[.bool a1_0, .slice A1_1 l1_1.length c1_1, .slice A1_2 l1_2.length c1_2]) (t := 39) ?hr ?_; (case hd => rfl); (case hg => rfl); (case hr => first | (go_simp; done) | (go_simp; rfl)); intro gb302 hg w7 hbox hb; have n0_ := Aside0.mk (z09q (g := gb301) (o := .cells #[.bool a0_0, .slice A0_1 l0_1.length c0_1, .slice A0_2 l0_2.length c0_2] 39 (0, 0)) (by (with_reducible repeat (first | refine z06q ?_ _ | refine z07q ?_ | refine z05q ?_ _)); exact BK301.out) hb); have n1_ := Aside0.mk (z11q (by repeat (first | (with_reducible first | exact HB.out | apply z02q | apply z00q | apply z01q | refine z03q ?_ GE301.out) | exact HB.out)) hb); have n2_ := Aside0.mk (hbox); have n3_ := Aside0.mk ((by rw [hg]; exact (z10q (by repeat (first | (with_reducible first | exact HB.out | apply z02q | apply z00q | apply z01q | refine z03q ?_ GE301.out) | exact HB.out))) : w.heap.size ≤ gb302)); have n4_ := Aside0.mk ((by rw [hg]; exact (z10q (by repeat (first | (with_reducible first | exact HB.out | apply z02q | apply z00q | apply z01q | refine z03q ?_ GE301.out) | exact HB.out))) : w.heap.size ≤ gb302)); have n5_ := Aside0.mk ((by rw [hg]; exact Nat.ne_of_lt (blk_lt (g := gb301) (o := .cells #[.bool a0_0, .slice A0_1 l0_1.length c0_1, .slice A0_2 l0_2.length c0_2] 39 (0, 0)) (by (with_reducible repeat (first | refine z06q ?_ _ | refine z07q ?_ | refine z05q ?_ _)); exact BK301.out)) : gb301 ≠ gb302)); have n6_ := Aside0.mk ((by rw [hg]; exact Nat.ne_of_gt (blk_lt (g := gb301) (o := .cells #[.bool a0_0, .slice A0_1 l0_1.length c0_1, .slice A0_2 l0_2.length c0_2] 39 (0, 0)) (by (with_reducible repeat (first | refine z06q ?_ _ | refine z07q ?_ | refine z05q ?_ _)); exact BK301.out)) : gb302 ≠ gb301)); clear BK301; clear HB; have BK301 := n0_; have HB := n1_; have BK302 := n2_; have GW302 := n3_; have GE302 := n4_; have NB301_302 := n5_; have NB302_301 := n6_; clear n0_ n1_ n2_ n3_ n4_ n5_ n6_; clear hb hbox hg))
  have n0_ := Aside0.mk (z07q BK301.out)
  have n1_ := Aside0.mk (z07q BK302.out)
  have n2_ := Aside0.mk (z01q HB.out)
  clear BK301
  clear BK302
  clear HB
  have BK301 := n0_
  have BK302 := n1_
  have HB := n2_
  clear n0_ n1_ n2_
  refine start_ (n := 8) (S := fun w' => w'.cell? ⟨gb301, 0, none⟩ = some (.bool a0_0) ∧ w'.cell? ⟨gb301, 1, none⟩ = some (.slice A0_1 l0_1.length c0_1) ∧ w'.cell? ⟨gb301, 2, none⟩ = some (.slice A0_2 l0_2.length c0_2) ∧ w'.cell? ⟨gb302, 0, none⟩ = some (.bool a1_0) ∧ w'.cell? ⟨gb302, 1, none⟩ = some (.slice A1_1 l1_1.length c1_1) ∧ w'.cell? ⟨gb302, 2, none⟩ = some (.slice A1_2 l1_2.length c1_2)) (ds := []) #[false, false, false, false, false, false, false, false] (by kernel_rfl) rfl rfl ⟨(z04q BK301.out 0).trans rfl, (z04q BK301.out 1).trans rfl, (z04q BK301.out 2).trans rfl, (z04q BK302.out 0).trans rfl, (z04q BK302.out 1).trans rfl, (z04q BK302.out 2).trans rfl⟩ (fun hHeld => ?_); refine with_tabW rat_Compare.tab1 rat_Compare.bits1 (fun HT_ HW_ => ?_)
  generalize w7.drew = w8 at BK301 BK302 HB hHeld ⊢
  refine take_ (i := 0) (N := some 5) (v := ?_) (a' := ?_) #[true, false, false, false, false, false, false, false] rfl rfl (z29q HT_.out HW_.out (by kernel_rfl)) (fun _ _ _ h => h) (Or.inl ⟨by rfl, ?_⟩) hHeld ?_ ?_
  rotate_left
  · rintro w' ⟨s0, s1, s2, s3, s4, s5⟩
    go_simp
    with_reducible rfl
  rotate_left
  · simp only [Act.put, List.setIfInBounds_toArray, List.set_cons_zero, List.set_cons_succ, i64_w, i32_w]
    rfl
  refine take_ (i := 1) (N := some 6) (v := ?_) (a' := ?_) #[true, true, false, false, false, false, false, false] rfl rfl (z29q HT_.out HW_.out (by kernel_rfl)) (fun _ _ _ h => h) (Or.inl ⟨by rfl, ?_⟩) hHeld ?_ ?_
  rotate_left
  · rintro w' ⟨s0, s1, s2, s3, s4, s5⟩
    go_simp
    with_reducible rfl
  rotate_left
  · simp only [Act.put, List.setIfInBounds_toArray, List.set_cons_zero, List.set_cons_succ, i64_w, i32_w]
    rfl
  refine take_ (i := 3) (N := some 8) (v := ?_) (a' := ?_) #[true, true, false, true, false, false, false, false] rfl rfl (z29q HT_.out HW_.out (by kernel_rfl)) (fun _ _ _ h => h) (Or.inl ⟨by rfl, ?_⟩) hHeld ?_ ?_
  rotate_left
  · rintro w' ⟨s0, s1, s2, s3, s4, s5⟩
    go_simp
    with_reducible rfl
  rotate_left
  · simp only [Act.put, List.setIfInBounds_toArray, List.set_cons_zero, List.set_cons_succ, i64_w, i32_w]
    rfl
  refine take_ (i := 4) (N := some 9) (v := ?_) (a' := ?_) #[true, true, false, true, true, false, false, false] rfl rfl (z29q HT_.out HW_.out (by kernel_rfl)) (fun _ _ _ h => h) (Or.inl ⟨by rfl, ?_⟩) hHeld ?_ ?_
  rotate_left
  · rintro w' ⟨s0, s1, s2, s3, s4, s5⟩
    go_simp
    with_reducible rfl
  rotate_left
  · simp only [Act.put, List.setIfInBounds_toArray, List.set_cons_zero, List.set_cons_succ, i64_w, i32_w]
    rfl
  refine one_ (i := 2) (N := some 7) #[true, true, true, true, true, false, false, false] rfl rfl (one_of HT_.out (by kernel_rfl)) (by decide) (fun K hK => ?_)
  refine goes_ Try.func25 (by kernel_rfl) rfl #[.agg #[.bool a0_0, .slice A0_1 l0_1.length c0_1, .slice A0_2 l0_2.length c0_2], .agg #[.bool a1_0, .slice A1_1 l1_1.length c1_1, .slice A1_2 l1_2.length c1_2]] (by rfl) rfl rfl (by (try simp only [List.map_toArray, List.map_cons, List.map_nil]); first | done | rfl | (simp only [List.length_drop, List.length_take]; rfl)) ?_
  with_reducible refine (rat_over.calls k a0_0 _ _ l0_1 _ _ l0_2 a1_0 _ _ l1_1 _ _ l1_2 t303 t304 _ ?side1 ?side2 ?side3 ?side4 ?side5 ?side6 ?side7 ?side8 A3.out).mono ?_
  (case side1 => repeat (first | exact (Kd.C_below HR0_1.out HB.out) | (with_reducible refine Kd.C_alloc ?_ _) | (with_reducible refine Kd.C_drewN ?_ _) | (with_reducible refine Kd.C_drew ?_)))
  (case side2 => exact HC0_1.out)
  (case side3 => repeat (first | exact (Kd.C_below HR0_2.out HB.out) | (with_reducible refine Kd.C_alloc ?_ _) | (with_reducible refine Kd.C_drewN ?_ _) | (with_reducible refine Kd.C_drew ?_)))
  (case side4 => exact HC0_2.out)
  (case side5 => repeat (first | exact (Kd.C_below HR1_1.out HB.out) | (with_reducible refine Kd.C_alloc ?_ _) | (with_reducible refine Kd.C_drewN ?_ _) | (with_reducible refine Kd.C_drew ?_)))
  (case side6 => exact HC1_1.out)
  (case side7 => repeat (first | exact (Kd.C_below HR1_2.out HB.out) | (with_reducible refine Kd.C_alloc ?_ _) | (with_reducible refine Kd.C_drewN ?_ _) | (with_reducible refine Kd.C_drew ?_)))
  (case side8 => exact HC1_2.out)
  rintro e w9 ⟨v305, rfl, ho0, hb⟩
  refine ⟨_, rfl, ?_⟩
  have n0_ := Aside0.mk (Kd.R_lower ho0 (z10q (by repeat (first | (with_reducible first | exact HB.out | apply z02q | apply z00q | apply z01q | refine z03q ?_ GE301.out | refine z03q ?_ GE302.out) | exact HB.out))))
  have n1_ := Aside0.mk (z09q (g := gb301) (o := .cells #[.bool a0_0, .slice A0_1 l0_1.length c0_1, .slice A0_2 l0_2.length c0_2] 39 (0, 0)) (by (with_reducible repeat (first | refine z06q ?_ _ | refine z07q ?_ | refine z05q ?_ _)); exact BK301.out) hb)
  have n2_ := Aside0.mk (z09q (g := gb302) (o := .cells #[.bool a1_0, .slice A1_1 l1_1.length c1_1, .slice A1_2 l1_2.length c1_2] 39 (0, 0)) (by (with_reducible repeat (first | refine z06q ?_ _ | refine z07q ?_ | refine z05q ?_ _)); exact BK302.out) hb)
  have n3_ := Aside0.mk (z11q (by repeat (first | (with_reducible first | exact HB.out | apply z02q | apply z00q | apply z01q | refine z03q ?_ GE301.out | refine z03q ?_ GE302.out) | exact HB.out)) hb)
  clear BK301
  clear BK302
  clear HB
  have HO306 := n0_
  have BK301 := n1_
  have BK302 := n2_
  have HB := n3_
  clear n0_ n1_ n2_ n3_
  (try clear hb)
  (try clear hb2)
  (try clear hk)
  (try clear hi)
  (try clear ho0)
  refine hK.out _ _ ⟨(z04q BK301.out 0).trans rfl, (z04q BK301.out 1).trans rfl, (z04q BK301.out 2).trans rfl, (z04q BK302.out 0).trans rfl, (z04q BK302.out 1).trans rfl, (z04q BK302.out 2).trans rfl⟩ (fun hHeld => ?_)
  clear hK K
  refine norm_ (a' := ?_) ?_ ?_
  rotate_left
  · show Act.put _ (some 7) _ = _
    simp only [Act.put, List.setIfInBounds_toArray, List.set_cons_zero, List.set_cons_succ, i64_w, i32_w]
    rfl
  refine one_ (i := 5) (N := some 10) #[true, true, true, true, true, true, false, false] rfl rfl (one_of HT_.out (by kernel_rfl)) (by decide) (fun K hK => ?_)
  refine goes_ Try.func25 (by kernel_rfl) rfl #[.agg #[.bool a1_0, .slice A1_1 l1_1.length c1_1, .slice A1_2 l1_2.length c1_2], .agg #[.bool a0_0, .slice A0_1 l0_1.length c0_1, .slice A0_2 l0_2.length c0_2]] (by rfl) rfl rfl (by (try simp only [List.map_toArray, List.map_cons, List.map_nil]); first | done | rfl | (simp only [List.length_drop, List.length_take]; rfl)) ?_
  with_reducible refine (rat_over.calls k a1_0 _ _ l1_1 _ _ l1_2 a0_0 _ _ l0_1 _ _ l0_2 t307 t308 _ ?side1 ?side2 ?side3 ?side4 ?side5 ?side6 ?side7 ?side8 A4.out).mono ?_
  (case side1 => repeat (first | exact (Kd.C_below HR1_1.out HB.out) | (with_reducible refine Kd.C_alloc ?_ _) | (with_reducible refine Kd.C_drewN ?_ _) | (with_reducible refine Kd.C_drew ?_)))
  (case side2 => exact HC1_1.out)
  (case side3 => repeat (first | exact (Kd.C_below HR1_2.out HB.out) | (with_reducible refine Kd.C_alloc ?_ _) | (with_reducible refine Kd.C_drewN ?_ _) | (with_reducible refine Kd.C_drew ?_)))
  (case side4 => exact HC1_2.out)
  (case side5 => repeat (first | exact (Kd.C_below HR0_1.out HB.out) | (with_reducible refine Kd.C_alloc ?_ _) | (with_reducible refine Kd.C_drewN ?_ _) | (with_reducible refine Kd.C_drew ?_)))
  (case side6 => exact HC0_1.out)
  (case side7 => repeat (first | exact (Kd.C_below HR0_2.out HB.out) | (with_reducible refine Kd.C_alloc ?_ _) | (with_reducible refine Kd.C_drewN ?_ _) | (with_reducible refine Kd.C_drew ?_)))
  (case side8 => exact HC0_2.out)
  rintro e w10 ⟨v309, rfl, ho0, hb⟩
  refine ⟨_, rfl, ?_⟩
  have n0_ := Aside0.mk (Kd.R_elder' (by (with_reducible repeat (first | apply Kd.R_alloc | apply Kd.R_drewN | apply Kd.R_drew)); exact HO306.out) (Kd.R_base ho0) hb)
  have n1_ := Aside0.mk (Kd.R_lower (Kd.R_new' ho0 (Kd.R_lt (by (with_reducible repeat (first | apply Kd.R_alloc | apply Kd.R_drewN | apply Kd.R_drew)); exact HO306.out))) (z10q (by repeat (first | (with_reducible first | exact HB.out | apply z02q | apply z00q | apply z01q | refine z03q ?_ GE301.out | refine z03q ?_ GE302.out) | exact HB.out))))
  have n2_ := Aside0.mk (z09q (g := gb301) (o := .cells #[.bool a0_0, .slice A0_1 l0_1.length c0_1, .slice A0_2 l0_2.length c0_2] 39 (0, 0)) (by (with_reducible repeat (first | refine z06q ?_ _ | refine z07q ?_ | refine z05q ?_ _)); exact BK301.out) hb)
  have n3_ := Aside0.mk (z09q (g := gb302) (o := .cells #[.bool a1_0, .slice A1_1 l1_1.length c1_1, .slice A1_2 l1_2.length c1_2] 39 (0, 0)) (by (with_reducible repeat (first | refine z06q ?_ _ | refine z07q ?_ | refine z05q ?_ _)); exact BK302.out) hb)
  have n4_ := Aside0.mk (z11q (by repeat (first | (with_reducible first | exact HB.out | apply z02q | apply z00q | apply z01q | refine z03q ?_ GE301.out | refine z03q ?_ GE302.out) | exact HB.out)) hb)
  clear HO306
  clear BK301
  clear BK302
  clear HB
  have HO306 := n0_
  have HO310 := n1_
  have BK301 := n2_
  have BK302 := n3_
  have HB := n4_
  clear n0_ n1_ n2_ n3_ n4_
  (try clear hb)
  (try clear hb2)
  (try clear hk)
  (try clear hi)
  (try clear ho0)
  obtain ⟨Ao11, co11, eo11⟩ := Kd.R_slice HO306.out
  (first | subst eo11 | (injection eo11 with f1_ f2_ f3_; have f4_ := f1_.symm; have f5_ := f3_.symm; clear f1_ f2_ f3_; subst f4_; subst f5_))
  obtain ⟨Ao12, co12, eo12⟩ := Kd.R_slice HO310.out
  (first | subst eo12 | (injection eo12 with f1_ f2_ f3_; have f4_ := f1_.symm; have f5_ := f3_.symm; clear f1_ f2_ f3_; subst f4_; subst f5_))
  refine hK.out _ _ ⟨(z04q BK301.out 0).trans rfl, (z04q BK301.out 1).trans rfl, (z04q BK301.out 2).trans rfl, (z04q BK302.out 0).trans rfl, (z04q BK302.out 1).trans rfl, (z04q BK302.out 2).trans rfl⟩ (fun hHeld => ?_)
  clear hK K
  refine norm_ (a' := ?_) ?_ ?_
  rotate_left
  · show Act.put _ (some 10) _ = _
    simp only [Act.put, List.setIfInBounds_toArray, List.set_cons_zero, List.set_cons_succ, i64_w, i32_w]
    rfl
  refine one_ (i := 6) (N := some 11) #[true, true, true, true, true, true, true, false] rfl rfl (one_of HT_.out (by kernel_rfl)) (by decide) (fun K hK => ?_)
  refine goes_ Try.func24 (by kernel_rfl) rfl #[.agg #[.bool t303, .slice Ao11 t304.length co11], .agg #[.bool t307, .slice Ao12 t308.length co12]] (by rfl) rfl rfl (by (try simp only [List.map_toArray, List.map_cons, List.map_nil]); first | done | rfl | (simp only [List.length_drop, List.length_take]; rfl)) ?_
  with_reducible refine (whole_Compare.calls k t303 _ _ t304 t307 _ _ t308 t311 _ ?side1 ?side2 ?side3 ?side4 A5.out).mono ?_
  (case side1 => repeat (first | exact (Kd.R_reads' HO306.out).2.2 | (with_reducible refine Kd.C_alloc ?_ _) | (with_reducible refine Kd.C_drewN ?_ _) | (with_reducible refine Kd.C_drew ?_)))
  (case side2 => exact (Kd.R_reads' HO306.out).2.1)
  (case side3 => repeat (first | exact (Kd.R_reads' HO310.out).2.2 | (with_reducible refine Kd.C_alloc ?_ _) | (with_reducible refine Kd.C_drewN ?_ _) | (with_reducible refine Kd.C_drew ?_)))
  (case side4 => exact (Kd.R_reads' HO310.out).2.1)
  rintro e w13 ⟨rfl, hb⟩
  refine ⟨_, rfl, ?_⟩
  have n0_ := Aside0.mk (Kd.R_below (by (with_reducible repeat (first | apply Kd.R_alloc | apply Kd.R_drewN | apply Kd.R_drew)); exact HO306.out) hb)
  have n1_ := Aside0.mk (Kd.R_below (by (with_reducible repeat (first | apply Kd.R_alloc | apply Kd.R_drewN | apply Kd.R_drew)); exact HO310.out) hb)
  have n2_ := Aside0.mk (z09q (g := gb301) (o := .cells #[.bool a0_0, .slice A0_1 l0_1.length c0_1, .slice A0_2 l0_2.length c0_2] 39 (0, 0)) (by (with_reducible repeat (first | refine z06q ?_ _ | refine z07q ?_ | refine z05q ?_ _)); exact BK301.out) hb)
  have n3_ := Aside0.mk (z09q (g := gb302) (o := .cells #[.bool a1_0, .slice A1_1 l1_1.length c1_1, .slice A1_2 l1_2.length c1_2] 39 (0, 0)) (by (with_reducible repeat (first | refine z06q ?_ _ | refine z07q ?_ | refine z05q ?_ _)); exact BK302.out) hb)
  have n4_ := Aside0.mk (z11q (by repeat (first | (with_reducible first | exact HB.out | apply z02q | apply z00q | apply z01q | refine z03q ?_ GE301.out | refine z03q ?_ GE302.out) | exact HB.out)) hb)
  clear HO306
  clear HO310
  clear BK301
  clear BK302
  clear HB
  have HO306 := n0_
  have HO310 := n1_
  have BK301 := n2_
  have BK302 := n3_
  have HB := n4_
  clear n0_ n1_ n2_ n3_ n4_
  (try clear hb)
  (try clear hb2)
  (try clear hk)
  (try clear hi)
  refine hK.out _ _ ⟨(z04q BK301.out 0).trans rfl, (z04q BK301.out 1).trans rfl, (z04q BK301.out 2).trans rfl, (z04q BK302.out 0).trans rfl, (z04q BK302.out 1).trans rfl, (z04q BK302.out 2).trans rfl⟩ (fun hHeld => ?_)
  clear hK K
  refine norm_ (a' := ?_) ?_ ?_
  rotate_left
  · show Act.put _ (some 11) _ = _
    simp only [Act.put, List.setIfInBounds_toArray, List.set_cons_zero, List.set_cons_succ, i64_w, i32_w]
    rfl
  refine pure_ (i := 7) (N := some 4) (v := ?_) (a' := ?_) #[true, true, true, true, true, true, true, true] rfl rfl (any_of HT_.out (by kernel_rfl)) (fun _ _ _ h => h) (Or.inl ⟨by rfl, ?_⟩) ?_ ?_
  rotate_left
  · intro w'
    go_simp
    with_reducible rfl
  rotate_left
  · simp only [Act.put, List.setIfInBounds_toArray, List.set_cons_zero, List.set_cons_succ, i64_w, i32_w]
    rfl
  refine done_ (done_of HT_.out (by kernel_rfl)) ?_
  try go_wp2
  go_ret
  exact ⟨by first | rfl | (simp [z14q, z13q] <;> rfl) | (simp [*, z14q, z13q] <;> rfl), by repeat (first | (with_reducible first | exact HB.out | apply z02q | apply z00q | apply z01q | refine z03q ?_ GE301.out | refine z03q ?_ GE302.out) | exact HB.out)⟩
def vec_Ints.l0 : Nat → List (S39) → List Int → Int → Int → Option ((List (S39)))
  | 0, _, _, _, _ => none
  | k + 1, x3, x6, x7, x8 => if x8 < x7 then (if 0 ≤ x8 then (if x8 < (x6.length : Int) then ((rat_Int.f k (rd x6 x8)).bind fun bt313 => (if x3.length < 2513169434916 then (vec_Ints.l0 k (x3 ++ [(⟨(⟨bt313.1, bt313.2.1⟩ : S37), bt313.2.2⟩ : S39)]) x6 x7 (wrap64 (x8 + 1))) else (none))) else (none)) else (none)) else (some x3)
def vec_Ints.f (k : Nat) (l0 : List Int) : Option ((List (S39))) := vec_Ints.l0 k ([] : List (S39)) l0 (l0.length : Int) 0
theorem vec_Ints.mono_l : ∀ k, (∀ y0 y1 y2 y3, LeO (vec_Ints.l0 k y0 y1 y2 y3) (vec_Ints.l0 (k + 1) y0 y1 y2 y3))
  | 0 => fun _ _ _ _ r h => by simp [vec_Ints.l0] at h
  | k + 1 => by
    have ih0 := vec_Ints.mono_l k
    · intro y0 y1 y2 y3
      unfold vec_Ints.l0
      repeat' first
      | (with_reducible exact ih0 _ _ _ _)
      | (with_reducible exact rat_Int.mono _ _)
      | (with_reducible exact LeO.refl _)
      | (with_reducible exact LeO.none _)
      | (with_reducible refine LeO.ite ?_ ?_)
      | (with_reducible refine LeO.bind ?_ (fun _ => ?_))
      | exact ih0 _ _ _ _
      | exact rat_Int.mono _ _
      | exact LeO.none _
      | refine LeO.ite ?_ ?_
      | refine LeO.bind ?_ (fun _ => ?_)
theorem vec_Ints.mono : ∀ a0 k, LeO (vec_Ints.f k a0) (vec_Ints.f (k + 1) a0) := by
  intro a0 k
  have ih0 := vec_Ints.mono_l k
  unfold vec_Ints.f
  repeat' first
      | (with_reducible exact ih0 _ _ _ _)
      | (with_reducible exact rat_Int.mono _ _)
      | (with_reducible exact LeO.refl _)
      | (with_reducible exact LeO.none _)
      | (with_reducible refine LeO.ite ?_ ?_)
      | (with_reducible refine LeO.bind ?_ (fun _ => ?_))
      | exact ih0 _ _ _ _
      | exact rat_Int.mono _ _
      | exact LeO.none _
      | refine LeO.ite ?_ ?_
      | refine LeO.bind ?_ (fun _ => ?_)
set_option maxHeartbeats 8000000 in
set_option maxRecDepth 100000 in
theorem vec_Ints.calls (k : Nat) (A0 : Option Addr) (c0 : Nat) (l0 : List Int) (r : List (S39)) (w : World) (hr0 : Kd.C (Kd.int .i64) w A0 l0.length l0) (hc0 : l0.length ≤ c0) (h : vec_Ints.f k l0 = some r) :
    Calls Try.prog 13 #[.slice A0 l0.length c0] w fun e w' => ∃ v0_ : Value, e = .returned (v0_) ∧ Kd.S k39 39 w' w.heap.size (fun _ => True) v0_ r ∧ Below w.heap.size w w' := by
  have HR0 := Aside0.mk hr0
  have HC0 := Aside0.mk hc0
  clear hr0 hc0
  have HB := Aside0.mk (Below.refl w.heap.size w)
  have H : (vec_Ints.l0 k ([] : List (S39)) l0 (l0.length : Int) 0) = some r := h
  clear h
  have H' := Aside0.mk H
  clear H
  go_enter Try.func13, Try.ntmps13
  go_wp2
  go_loopg [3, 8] k (fun kq v3 v8 w' => ∃ (x3_1 : List (S39)) (x8_1 : Int), v8 = .int .i64 x8_1 ∧ Aside0 (vec_Ints.l0 kq x3_1 l0 (l0.length : Int) x8_1 = some r) ∧ Aside0 (kq ≤ k) ∧ Aside0 (Kd.S k39 39 w' w.heap.size (fun _ => True) v3 x3_1) ∧ Aside0 (Below w.heap.size w w'))
  case atStart => exact ⟨(([] : List (S39))), (0), (by first | rfl | (simp; done) | (simp [*]; done)), H', ⟨Nat.le_refl _⟩, ⟨by first | exact Kd.S_nil _ _ _ _ _ | exact Kd.N_nil _ _ _ _ _ | exact Kd.V_nil _ _ _ _ _ | exact Kd.Q_nil _ _ _ _ _ | exact Kd.R_nil _ _ _ _ _⟩, ⟨by repeat (first | (with_reducible first | exact HB.out | apply z02q | apply z00q | apply z01q) | exact HB.out)⟩⟩
  case round =>
    clear H'
    try clear c1
    obtain ⟨x3_1, x8_1, rfl, HA, HK1, HO_3, HB⟩ := hrel
    cases gk with
    | zero => exact absurd HA.out (by simp [vec_Ints.l0])
    | succ k1 =>
      have H := HA.out
      clear HA
      simp only [vec_Ints.l0] at H
      by_cases c2 : x8_1 < (l0.length : Int)
      · rw [if_pos c2] at H
        have c2b0 : decide (x8_1 < (l0.length : Int)) = true := decide_eq_true c2
        clear c2
        by_cases c3 : 0 ≤ x8_1
        · rw [if_pos c3] at H
          have c3b0 : decide (0 ≤ x8_1) = true := decide_eq_true c3
          clear c3
          by_cases c4 : x8_1 < (l0.length : Int)
          · rw [if_pos c4] at H
            have c4b0 : decide (x8_1 < (l0.length : Int)) = true := decide_eq_true c4
            clear c4
            replace H := Option.bind_eq_some_iff.mp H
            obtain ⟨⟨t313, t314, t317⟩, A50, H⟩ := H
            replace H : (if x3_1.length < 2513169434916 then (vec_Ints.l0 k1 (x3_1 ++ [(⟨(⟨t313, t314⟩ : S37), t317⟩ : S39)]) l0 (l0.length : Int) (wrap64 (x8_1 + 1))) else (none)) = some r := H
            have A5 := Aside0.mk A50
            clear A50
            by_cases c6 : x3_1.length < 2513169434916
            · rw [if_pos c6] at H
              have LMc6 := Aside0.mk c6
              clear c6
              obtain ⟨y320, hy320⟩ : ∃ y_ : List (S39), y_ = (x3_1 ++ [(⟨(⟨t313, t314⟩ : S37), t317⟩ : S39)]) := ⟨_, rfl⟩
              replace H : (vec_Ints.l0 k1 y320 l0 (l0.length : Int) (wrap64 (x8_1 + 1))) = some r := by first | (rw [hy320]; with_reducible exact H) | (have H2_ := (Option.bind_some _ _).symm.trans H; rw [hy320]; with_reducible exact H2_) | (have H2_ := (Option.bind_some _ _).symm.trans H; with_reducible exact H2_) | with_reducible exact H | (rw [hy320]; exact H) | exact H
              have Ny320 := Aside0.mk hy320
              clear hy320
              have H' := Aside0.mk H
              clear H
              have p312 : 0 ≤ (x8_1 : Int) := of_decide_eq_true (by first | (with_reducible assumption) | assumption)
              have q312 : x8_1 < (l0.length : Int) := of_decide_eq_true (by first | (with_reducible assumption) | assumption)
              obtain ⟨ad312, e312, hx312_0⟩ := Kd.at_int HR0.out x8_1 p312 q312
              cases e312
              replace hx312_0 := (HB.out.cell (World.block_lt_of_cell? w _ hx312_0)).trans hx312_0
              replace p312 := eq_true p312
              replace q312 := eq_true q312
              go_wp2_with (first | ((with_reducible refine z16q (f := 21) rfl ?_); refine goesL_ (some 14) rfl rfl Try.func21 (by kernel_rfl) rfl #[.int .i64 (rd l0 x8_1)] rfl (by (try simp only [List.map_toArray, List.map_cons, List.map_nil]); first | done | rfl | (simp only [List.length_drop, List.length_take]; rfl)) ?_; (with_reducible refine (rat_Int.calls k1 (rd l0 x8_1) t313 t314 t317 _ A5.out).mono ?_); rintro e w7 ⟨v315, v318, rfl, ho0, ho1, hb⟩; refine ⟨_, rfl, ?_⟩; have n0_ := Aside0.mk (Kd.S_mono (Kd.S_told (Kd.S_told (Kd.S_old (by (with_reducible repeat (first | apply Kd.S_alloc | apply Kd.S_drewN | apply Kd.S_drew)); exact HO_3.out) hb) (Kd.R_base ho0)) (Kd.R_base ho1)) (fun _ h_ => h_.1)); have n1_ := Aside0.mk (Kd.R_lower ho0 (z10q (by repeat (first | (with_reducible first | exact HB.out | apply z02q | apply z00q | apply z01q) | exact HB.out)))); have n2_ := Aside0.mk (Kd.R_lower ho1 (z10q (by repeat (first | (with_reducible first | exact HB.out | apply z02q | apply z00q | apply z01q) | exact HB.out)))); have n3_ := Aside0.mk (z11q (by repeat (first | (with_reducible first | exact HB.out | apply z02q | apply z00q | apply z01q) | exact HB.out)) hb); clear HO_3; clear HB; have HO_3 := n0_; have HO316 := n1_; have HO319 := n2_; have HB := n3_; clear n0_ n1_ n2_ n3_; (try clear hb); (try clear hb2); (try clear hk); (try clear hi); (try clear ho0); (try clear ho1); obtain ⟨Ao9, co9, eo9⟩ := Kd.R_slice HO316.out; subst eo9; obtain ⟨Ao10, co10, eo10⟩ := Kd.R_slice HO319.out; subst eo10) | ((with_reducible refine gate_builtin (b := .append) (xs := #[.tmp 12, .tmp 15]) rfl ?_); at_builtin; refine Kd.S_append k39 (w0 := w) w.heap.size rfl (.tmp 12) (.tmp 15) 25 39 (.agg #[(.bool false), (.slice none 0 0), (.slice none 0 0)]) 56 rfl Try.underlying25 info39 rfl (by decide) (by omega) u3 x3_1 (⟨(⟨t313, t314⟩ : S37), t317⟩ : S39) [.bool t313, .slice Ao9 t314.length co9, .slice Ao10 t317.length co10] (fun _ => True) (fun k_ => some k_ = (.slice Ao9 t314.length co9 : Value).ownBlock ∨ some k_ = (.slice Ao10 t317.length co10 : Value).ownBlock) rfl rfl ?aP (fun k_ hk_ => hk_.elim (fun h_ => ((Kd.R_mono (ok' := fun k_ => ((fun _ => True)) k_ ∧ some k_ ≠ (u3 : Value).ownBlock) (Kd.R_apart' (HO316.out) (Kd.S_typed HO_3.out) (by decide)) (fun k_ hk => ⟨trivial, hk.2⟩))).1 k_ h_.symm) (fun h_ => ((Kd.R_mono (ok' := fun k_ => ((fun _ => True)) k_ ∧ some k_ ≠ (u3 : Value).ownBlock) (Kd.R_apart' (HO319.out) (Kd.S_typed HO_3.out) (by decide)) (fun k_ hk => ⟨trivial, hk.2⟩))).1 k_ h_.symm)) ?aF ?aO ?aB ?aS ?aL ?_; (case aP => exact k39_mkM _ _ _ (⟨(⟨t313, t314⟩ : S37), t317⟩ : S39) (Kd.R_mono (Kd.R_tight rfl (Kd.R_mono (ok' := fun k_ => ((fun _ => True)) k_ ∧ some k_ ≠ (u3 : Value).ownBlock) (Kd.R_apart' (HO316.out) (Kd.S_typed HO_3.out) (by decide)) (fun k_ hk => ⟨trivial, hk.2⟩))) (fun _ h_ => Or.inl h_)) (Kd.R_mono (Kd.R_tight rfl (Kd.R_mono (ok' := fun k_ => ((fun _ => True)) k_ ∧ some k_ ≠ (u3 : Value).ownBlock) (Kd.R_apart' (HO319.out) (Kd.S_typed HO_3.out) (by decide)) (fun k_ hk => ⟨trivial, hk.2⟩))) (fun _ h_ => Or.inr (h_)))); (case aB => exact (by repeat (first | (with_reducible first | exact HB.out | apply z02q | apply z00q | apply z01q) | exact HB.out))); (case aF => exact (fun _ _ => trivial)); (case aO => exact (by (with_reducible repeat (first | apply Kd.S_alloc | apply Kd.S_drewN | apply Kd.S_drew)); exact Kd.S_mono HO_3.out (fun k_ hk => ⟨trivial, fun e_ => e_.elim (fun h_ => hk.1.2 h_) (fun h_ => hk.2 h_)⟩))); (case aS => exact (z10q (by repeat (first | (with_reducible first | exact HB.out | apply z02q | apply z00q | apply z01q) | exact HB.out)))); (case aL => have := LMc6.out; omega); intro v321 w8 ho hb hg hat; rw [← Ny320.out] at ho; have n0_ := Aside0.mk (hb); have n1_ := Aside0.mk (ho); clear HB; clear HO_3; clear HO316; clear HO319; have HB := n0_; have HO322 := n1_; clear n0_ n1_; clear ho hb hg hat))
              go_roundg k1
              case measure => have := HK1.out; omega
              case rel => exact ⟨(y320), (wrap64 (x8_1 + 1)), (by first | rfl | (simp; done) | (simp [*]; done)), H', ⟨by have := HK1.out; omega⟩, ⟨by (with_reducible repeat (first | apply Kd.S_alloc | apply Kd.S_drewN | apply Kd.S_drew)); exact HO322.out⟩, ⟨by repeat (first | (with_reducible first | exact HB.out | apply z02q | apply z00q | apply z01q) | exact HB.out)⟩⟩
            · rw [if_neg c6] at H
              exact absurd H (by simp)
          · rw [if_neg c4] at H
            exact absurd H (by simp)
        · rw [if_neg c3] at H
          exact absurd H (by simp)
      · rw [if_neg c2] at H
        have c2b0 : decide (x8_1 < (l0.length : Int)) = false := decide_eq_false c2
        clear c2
        obtain rfl := Option.some.inj H
        go_wp2
        go_ret
        exact ⟨_, by first | rfl | (simp [z14q, z13q] <;> rfl) | (simp [*, z14q, z13q] <;> rfl), by (with_reducible repeat (first | apply Kd.S_alloc | apply Kd.S_drewN | apply Kd.S_drew)); exact HO_3.out, by repeat (first | (with_reducible first | exact HB.out | apply z02q | apply z00q | apply z01q) | exact HB.out)⟩
def stock_item.f (a0_0 : Int) (a0_1 : Int) : Option (Bool) := (stock_in.f a0_0 1 1048576).bind fun t324 => (if t324 = true then ((stock_in.f a0_1 0 1024).bind fun t325 => (some t325)) else (some false))
set_option maxHeartbeats 8000000 in
set_option maxRecDepth 100000 in
theorem stock_item.calls (a0_0 : Int) (a0_1 : Int) (r : Bool) (w : World) (h : stock_item.f a0_0 a0_1 = some r) :
    Calls Try.prog 33 #[.agg #[.int .i64 a0_0, .int .i64 a0_1]] w fun e w' => e = .returned (.bool r) ∧ Below w.heap.size w w' := by
  have hu46 := Try.underlying46
  have HB := Aside0.mk (Below.refl w.heap.size w)
  have H : ((stock_in.f a0_0 1 1048576).bind fun t324 => (if t324 = true then ((stock_in.f a0_1 0 1024).bind fun t325 => (some t325)) else (some false))) = some r := h
  clear h
  replace H := Option.bind_eq_some_iff.mp H
  obtain ⟨t324, A20, H⟩ := H
  replace H : (if t324 = true then ((stock_in.f a0_1 0 1024).bind fun t325 => (some t325)) else (some false)) = some r := H
  have A2 := Aside0.mk A20
  clear A20
  by_cases c3 : t324 = true
  · subst c3
    have H1 : ((stock_in.f a0_1 0 1024).bind fun t325 => (some t325)) = some r := by rw [if_pos rfl] at H; exact H
    clear H
    have H := H1
    clear H1
    replace H := Option.bind_eq_some_iff.mp H
    obtain ⟨t325, A40, H⟩ := H
    replace H : (some t325) = some r := H
    have A4 := Aside0.mk A40
    clear A40
    obtain rfl := Option.some.inj H
    go_enter Try.func33, Try.ntmps33
    go_wp2_with (first | ((with_reducible refine z18q (N := 1) rfl ?_); refine z17q ?hg (N := 1) ?hd (cs := #[.int .i64 a0_0, .int .i64 a0_1]) (t := 46) ?hr ?_; (case hd => rfl); (case hg => rfl); (case hr => first | (go_simp; done) | (go_simp; rfl)); intro gb323 hg w5 hbox hb; have n0_ := Aside0.mk (z11q (by repeat (first | (with_reducible first | exact HB.out | apply z02q | apply z00q | apply z01q) | exact HB.out)) hb); have n1_ := Aside0.mk (hbox); have n2_ := Aside0.mk ((by rw [hg]; exact (z10q (by repeat (first | (with_reducible first | exact HB.out | apply z02q | apply z00q | apply z01q) | exact HB.out))) : w.heap.size ≤ gb323)); have n3_ := Aside0.mk ((by rw [hg]; exact (z10q (by repeat (first | (with_reducible first | exact HB.out | apply z02q | apply z00q | apply z01q) | exact HB.out))) : w.heap.size ≤ gb323)); clear HB; have HB := n0_; have BK323 := n1_; have GW323 := n2_; have GE323 := n3_; clear n0_ n1_ n2_ n3_; clear hb hbox hg; have hcz6_0 : w5.cell? ⟨gb323, 0, none⟩ = some (.int .i64 a0_0) := (z04q BK323.out 0).trans rfl; have hcz6_1 : w5.cell? ⟨gb323, 1, none⟩ = some (.int .i64 a0_1) := (z04q BK323.out 1).trans rfl; have hfz6_0 := z08q BK323.out 0; have hfz6_1 := z08q BK323.out 1) | ((with_reducible refine z16q (f := 34) rfl ?_); refine goesL_ (some 5) rfl rfl Try.func34 (by kernel_rfl) rfl #[.int .i64 a0_0, .int .i64 1, .int .i64 1048576] rfl (by (try simp only [List.map_toArray, List.map_cons, List.map_nil]); first | done | rfl | (simp only [List.length_drop, List.length_take]; rfl)) ?_; (with_reducible refine (stock_in.calls a0_0 1 1048576 true _ A2.out).mono ?_); rintro e w' ⟨rfl, ⟨nd, rfl⟩⟩; refine ⟨_, rfl, ?_⟩) | (go_at_call 34; (with_reducible refine (stock_in.calls a0_1 0 1024 t325 _ A4.out).mono ?_); rintro e w' ⟨rfl, ⟨nd, rfl⟩⟩))
    go_ret
    exact ⟨by first | rfl | (simp [z14q, z13q] <;> rfl) | (simp [*, z14q, z13q] <;> rfl), by repeat (first | (with_reducible first | exact HB.out | apply z02q | apply z00q | apply z01q | refine z03q ?_ GE323.out) | exact HB.out)⟩
  · replace c3 := Bool.eq_false_iff.mpr c3
    subst c3
    have H1 : (some false) = some r := by rw [if_neg (show ¬ (false = true) by decide)] at H; exact H
    clear H
    have H := H1
    clear H1
    obtain rfl := Option.some.inj H
    go_enter Try.func33, Try.ntmps33
    go_wp2_with (first | ((with_reducible refine z18q (N := 1) rfl ?_); refine z17q ?hg (N := 1) ?hd (cs := #[.int .i64 a0_0, .int .i64 a0_1]) (t := 46) ?hr ?_; (case hd => rfl); (case hg => rfl); (case hr => first | (go_simp; done) | (go_simp; rfl)); intro gb323 hg w7 hbox hb; have n0_ := Aside0.mk (z11q (by repeat (first | (with_reducible first | exact HB.out | apply z02q | apply z00q | apply z01q) | exact HB.out)) hb); have n1_ := Aside0.mk (hbox); have n2_ := Aside0.mk ((by rw [hg]; exact (z10q (by repeat (first | (with_reducible first | exact HB.out | apply z02q | apply z00q | apply z01q) | exact HB.out))) : w.heap.size ≤ gb323)); have n3_ := Aside0.mk ((by rw [hg]; exact (z10q (by repeat (first | (with_reducible first | exact HB.out | apply z02q | apply z00q | apply z01q) | exact HB.out))) : w.heap.size ≤ gb323)); clear HB; have HB := n0_; have BK323 := n1_; have GW323 := n2_; have GE323 := n3_; clear n0_ n1_ n2_ n3_; clear hb hbox hg; have hcz8_0 : w7.cell? ⟨gb323, 0, none⟩ = some (.int .i64 a0_0) := (z04q BK323.out 0).trans rfl; have hcz8_1 : w7.cell? ⟨gb323, 1, none⟩ = some (.int .i64 a0_1) := (z04q BK323.out 1).trans rfl; have hfz8_0 := z08q BK323.out 0; have hfz8_1 := z08q BK323.out 1) | ((with_reducible refine z16q (f := 34) rfl ?_); refine goesL_ (some 5) rfl rfl Try.func34 (by kernel_rfl) rfl #[.int .i64 a0_0, .int .i64 1, .int .i64 1048576] rfl (by (try simp only [List.map_toArray, List.map_cons, List.map_nil]); first | done | rfl | (simp only [List.length_drop, List.length_take]; rfl)) ?_; (with_reducible refine (stock_in.calls a0_0 1 1048576 false _ A2.out).mono ?_); rintro e w' ⟨rfl, ⟨nd, rfl⟩⟩; refine ⟨_, rfl, ?_⟩))
    go_ret
    exact ⟨by first | rfl | (simp [z14q, z13q] <;> rfl) | (simp [*, z14q, z13q] <;> rfl), by repeat (first | (with_reducible first | exact HB.out | apply z02q | apply z00q | apply z01q | refine z03q ?_ GE323.out) | exact HB.out)⟩
set_option maxRecDepth 100000
def rat_Whole.f (k : Nat) (a0_0 : Bool) (l0_1 l0_2 : List Int) : Option Bool := (rat_Make.f k a0_0 l0_1 l0_2).bind fun z => (nat_Of.f k 1).bind fun o => (nat_Compare.f k z.2.2 o).bind fun c => some (decide (c = 0))
theorem rat_Whole.mono : ∀ a0 a1 a2 k, LeO (rat_Whole.f k a0 a1 a2) (rat_Whole.f (k + 1) a0 a1 a2) := fun a0 a1 a2 k => by
  unfold rat_Whole.f
  exact LeO.bind (rat_Make.mono _ _ _ _) (fun _ => LeO.bind (nat_Of.mono _ _) (fun _ => LeO.bind (nat_Compare.mono _ _ _) (fun _ => LeO.refl _)))
set_option maxHeartbeats 8000000 in
theorem rat_Whole.calls (k : Nat) (a0_0 : Bool) (A0_1 : Option Addr) (c0_1 : Nat) (l0_1 : List Int) (A0_2 : Option Addr) (c0_2 : Nat) (l0_2 : List Int) (r : Bool) (w : World) (hr0_1 : Kd.C (Kd.int .u32) w A0_1 l0_1.length l0_1) (hc0_1 : l0_1.length ≤ c0_1) (hr0_2 : Kd.C (Kd.int .u32) w A0_2 l0_2.length l0_2) (hc0_2 : l0_2.length ≤ c0_2) (h : rat_Whole.f k a0_0 l0_1 l0_2 = some r) :
    Calls Try.prog 29 #[.agg #[.bool a0_0, .slice A0_1 l0_1.length c0_1, .slice A0_2 l0_2.length c0_2]] w fun e w' => e = .returned (.bool r) ∧ Below w.heap.size w w' := by
  obtain ⟨⟨z1, z2, z3⟩, hz, h⟩ := Option.bind_eq_some_iff.mp h
  obtain ⟨o, ho, h⟩ := Option.bind_eq_some_iff.mp h
  obtain ⟨c, hc, h⟩ := Option.bind_eq_some_iff.mp h
  obtain rfl := Option.some.inj h
  have HZ : Hid (rat_Make.f k a0_0 l0_1 l0_2 = some (z1, z2, z3)) := hz
  have HO : Hid (nat_Of.f k 1 = some o) := ho
  have HC : Hid (nat_Compare.f k z3 o = some c) := hc
  have HR1 := Aside0.mk (And.intro hc0_1 hr0_1)
  have HR2 := Aside0.mk (And.intro hc0_2 hr0_2)
  clear hz ho hc h hr0_1 hr0_2 hc0_1 hc0_2
  have hb0 : Aside0 (Below w.heap.size w (w.alloc (.cells #[.bool a0_0, .slice A0_1 l0_1.length c0_1, .slice A0_2 l0_2.length c0_2] 39))) := ⟨(Below.refl _ w).alloc (Nat.le_refl _) _⟩
  have hfd : ∀ (b : Bool) (A A' : Option Addr) (n c n' c' : Nat) (w : World), (Instr.field 39 (.agg #[.bool b, .slice A n c, .slice A' n' c']) 1).run Try.prog w = .ok (.slice A' n' c') w := fun _ _ _ _ _ _ _ _ => by kernel_rfl
  go_enter Try.func29, Try.ntmps29
  go_wp2_with (first
    | (go_at_call 28; (with_reducible refine (rat_Make.calls k a0_0 A0_1 c0_1 l0_1 A0_2 c0_2 l0_2 z1 z2 z3 _ (Kd.C_below HR1.out.2 hb0.out) HR1.out.1 (Kd.C_below HR2.out.2 hb0.out) HR2.out.1 HZ.out).mono ?_); rintro e w1 ⟨v1, v2, rfl, hv1, hv2, hb1⟩; obtain ⟨A2, c2, rfl, hl2, hC2⟩ := Kd.R_reads hv1; obtain ⟨A3, c3, rfl, hl3, hC3⟩ := Kd.R_reads hv2; have B1 : Aside0 (Below w.heap.size w w1) := ⟨hb0.out.trans (hb1.mono hb0.out.size)⟩; have Z1 := Aside0.mk (And.intro hl3 hC3); clear hb1 hv1 hv2 hl2 hC2 hl3 hC3)
    | (go_at_call 38; (with_reducible refine (nat_Of.calls k 1 o _ HO.out).mono ?_); rintro e w2 ⟨v3, rfl, hv3, hb2⟩; obtain ⟨A4, c4, rfl, hl4, hC4⟩ := Kd.R_reads hv3; have B2 : Aside0 (Below w.heap.size w w2) := ⟨B1.out.trans (hb2.mono B1.out.size)⟩; have Z2 := Aside0.mk (And.intro Z1.out.1 (Kd.C_below Z1.out.2 hb2)); have O2 := Aside0.mk (And.intro hl4 hC4); clear hb2 hv3 hl4 hC4)
    | (go_at_call 45; (with_reducible refine (nat_Compare.calls k A3 c3 z3 A4 c4 o c _ Z2.out.2 Z2.out.1 O2.out.2 O2.out.1 HC.out).mono ?_); rintro e w3 ⟨rfl, hb3⟩; have B3 : Aside0 (Below w.heap.size w w3) := ⟨B2.out.trans (hb3.mono B2.out.size)⟩; clear hb3))
  refine bodyPost_ret (results_tmp rfl _ _ _) rfl ?_
  exact ⟨rfl, B3.out⟩
set_option maxRecDepth 100000
def rat_Text.f (k : Nat) (a0_0 : Bool) (l0_1 l0_2 : List Int) : Option ByteArray := (rat_Make.f k a0_0 l0_1 l0_2).bind fun z => (rat_Whole.f k z.1 z.2.1 z.2.2).bind fun b => (whole_Text.f k z.1 z.2.1).bind fun t => if b = true then some t else (nat_Text.f k z.2.2).bind fun u => if t.size + u.size ≤ 1000000 then some ((t ++ (⟨#[47]⟩ : ByteArray)) ++ u) else none
theorem rat_Text.mono : ∀ a0 a1 a2 k, LeO (rat_Text.f k a0 a1 a2) (rat_Text.f (k + 1) a0 a1 a2) := fun a0 a1 a2 k => by
  unfold rat_Text.f
  exact LeO.bind (rat_Make.mono _ _ _ _) (fun _ => LeO.bind (rat_Whole.mono _ _ _ _) (fun _ => LeO.bind (whole_Text.mono _ _ _) (fun _ => LeO.ite (LeO.refl _) (LeO.bind (nat_Text.mono _ _) (fun _ => LeO.refl _)))))
theorem C_box3 {w1 : World} {B base : Nat} {ok : Nat → Prop} {A : Option Addr} {n c : Nat} {e : Nat} {xs : List Int} (h : Kd.R (Kd.int .u32) e w1 base ok (.slice A n c) xs) (hB : B < base) (x y z : Value) :
    Kd.C (Kd.int .u32) (((w1.setCell ⟨B, 0, none⟩ x).setCell ⟨B, 1, none⟩ y).setCell ⟨B, 2, none⟩ z) A xs.length xs :=
  R_C (R_set_below (p := ⟨B, 2, none⟩) (R_set_below (p := ⟨B, 1, none⟩) (R_set_below (p := ⟨B, 0, none⟩) h hB x) hB y) hB z)
theorem below_box3 {w w1 : World} (h : Below w.heap.size w w1) (x y z : Value) : Below w.heap.size w (((w1.setCell ⟨w.heap.size, 0, none⟩ x).setCell ⟨w.heap.size, 1, none⟩ y).setCell ⟨w.heap.size, 2, none⟩ z) :=
  ((h.setCell (p := ⟨w.heap.size, 0, none⟩) (Nat.le_refl _) x).setCell (p := ⟨w.heap.size, 1, none⟩) (Nat.le_refl _) y).setCell (p := ⟨w.heap.size, 2, none⟩) (Nat.le_refl _) z
set_option maxHeartbeats 8000000 in
theorem rat_Text.calls (k : Nat) (a0_0 : Bool) (A0_1 : Option Addr) (c0_1 : Nat) (l0_1 : List Int) (A0_2 : Option Addr) (c0_2 : Nat) (l0_2 : List Int) (r : ByteArray) (w : World) (hr0_1 : Kd.C (Kd.int .u32) w A0_1 l0_1.length l0_1) (hc0_1 : l0_1.length ≤ c0_1) (hr0_2 : Kd.C (Kd.int .u32) w A0_2 l0_2.length l0_2) (hc0_2 : l0_2.length ≤ c0_2) (h : rat_Text.f k a0_0 l0_1 l0_2 = some r) :
    Calls Try.prog 16 #[.agg #[.bool a0_0, .slice A0_1 l0_1.length c0_1, .slice A0_2 l0_2.length c0_2]] w fun e w' => e = .returned (.string r) ∧ Below w.heap.size w w' := by
  obtain ⟨⟨z1, z2, z3⟩, hz, h⟩ := Option.bind_eq_some_iff.mp h
  obtain ⟨b, hbw, h⟩ := Option.bind_eq_some_iff.mp h
  obtain ⟨t, ht, h⟩ := Option.bind_eq_some_iff.mp h
  have HZ : Hid (rat_Make.f k a0_0 l0_1 l0_2 = some (z1, z2, z3)) := hz
  have HBW : Hid (rat_Whole.f k z1 z2 z3 = some b) := hbw
  have HT : Hid (whole_Text.f k z1 z2 = some t) := ht
  have HH : Hid ((if b = true then some t else (nat_Text.f k z3).bind fun u => if t.size + u.size ≤ 1000000 then some ((t ++ (⟨#[47]⟩ : ByteArray)) ++ u) else none) = some r) := h
  have HR1 := Aside0.mk (And.intro hc0_1 hr0_1)
  have HR2 := Aside0.mk (And.intro hc0_2 hr0_2)
  clear hz hbw ht h hr0_1 hr0_2 hc0_1 hc0_2
  have hb0 : Aside0 (Below w.heap.size w (w.alloc (.cells #[.bool a0_0, .slice A0_1 l0_1.length c0_1, .slice A0_2 l0_2.length c0_2] 39))) := ⟨(Below.refl _ w).alloc (Nat.le_refl _) _⟩
  have bN : Aside0 ((w.alloc (.cells #[.bool a0_0, .slice A0_1 l0_1.length c0_1, .slice A0_2 l0_2.length c0_2] 39)).heap[w.heap.size]? = some (.cells #[.bool a0_0, .slice A0_1 l0_1.length c0_1, .slice A0_2 l0_2.length c0_2] 39)) := ⟨World.alloc_heap_new w _⟩
  cases b with
  | true =>
    obtain rfl : t = r := by have := HH.out; rw [if_pos rfl] at this; exact Option.some.inj this
    clear HH
    go_enter Try.func16, Try.ntmps16
    go_wp2_with (first
      | (go_at_call 28; (with_reducible refine (rat_Make.calls k a0_0 A0_1 c0_1 l0_1 A0_2 c0_2 l0_2 z1 z2 z3 _ (Kd.C_below HR1.out.2 hb0.out) HR1.out.1 (Kd.C_below HR2.out.2 hb0.out) HR2.out.1 HZ.out).mono ?_); rintro e w1 ⟨v1, v2, rfl, hv1, hv2, hb1⟩; obtain ⟨A2, c2, rfl, hl2, hC2⟩ := Kd.R_reads hv1; obtain ⟨A3, c3, rfl, hl3, hC3⟩ := Kd.R_reads hv2; have B1 : Aside0 (Below w.heap.size w w1) := ⟨hb0.out.trans (hb1.mono hb0.out.size)⟩; have N1 := Aside0.mk (z09q bN.out hb1); have V1 := Aside0.mk (And.intro (And.intro hl2 hv1) (And.intro hl3 hv2)); have hlt1 : w.heap.size < (w.alloc (.cells #[.bool a0_0, .slice A0_1 l0_1.length c0_1, .slice A0_2 l0_2.length c0_2] 39)).heap.size := (by simp); have X2 := Aside0.mk (And.intro hl2 (C_box3 hv1 hlt1 (.bool z1) (.slice A2 z2.length c2) (.slice A3 z3.length c3))); have X3 := Aside0.mk (And.intro hl3 (C_box3 hv2 hlt1 (.bool z1) (.slice A2 z2.length c2) (.slice A3 z3.length c3))); have B2 := Aside0.mk (below_box3 B1.out (.bool z1) (.slice A2 z2.length c2) (.slice A3 z3.length c3)); have N2 := Aside0.mk (blk_put (blk_put (blk_put N1.out 0 (.bool z1) rfl) 1 (.slice A2 z2.length c2) rfl) 2 (.slice A3 z3.length c3) rfl); have g0 := z04q N2.out 0; have g1 := z04q N2.out 1; have g2 := z04q N2.out 2; clear hlt1; have f0 := z08q N1.out 0; have f1 := z08q N1.out 1; have f2 := z08q N1.out 2; have q0 : w1.cell? ⟨w.heap.size, 0, none⟩ = some (.bool a0_0) := (z04q N1.out 0).trans rfl; have q1 : w1.cell? ⟨w.heap.size, 1, none⟩ = some (.slice A0_1 l0_1.length c0_1) := (z04q N1.out 1).trans rfl; have q2 : w1.cell? ⟨w.heap.size, 2, none⟩ = some (.slice A0_2 l0_2.length c0_2) := (z04q N1.out 2).trans rfl; clear hb1 hv1 hv2 hl2 hl3 hC2 hC3)
      | (go_at_call 29; (with_reducible refine (rat_Whole.calls k z1 A2 c2 z2 A3 c3 z3 true _ X2.out.2 X2.out.1 X3.out.2 X3.out.1 HBW.out).mono ?_); rintro e w2 ⟨rfl, hb2⟩; have B3 : Aside0 (Below w.heap.size w w2) := ⟨B2.out.trans (hb2.mono B2.out.size)⟩; have N3 := Aside0.mk (z09q N2.out hb2); have Y2 := Aside0.mk (And.intro X2.out.1 (Kd.C_below X2.out.2 hb2)); have Y3 := Aside0.mk (And.intro X3.out.1 (Kd.C_below X3.out.2 hb2)); have h0 : w2.cell? ⟨w.heap.size, 0, none⟩ = some (.bool z1) := (z04q N3.out 0).trans rfl; have h1 : w2.cell? ⟨w.heap.size, 1, none⟩ = some (.slice A2 z2.length c2) := (z04q N3.out 1).trans rfl; have h2 : w2.cell? ⟨w.heap.size, 2, none⟩ = some (.slice A3 z3.length c3) := (z04q N3.out 2).trans rfl; clear hb2 g0 g1 g2 q0 q1 q2 f0 f1 f2)
      | (go_at_call 30; (with_reducible refine (whole_Text.calls k z1 A2 c2 z2 t _ Y2.out.2 Y2.out.1 HT.out).mono ?_); rintro e w3 ⟨rfl, hb3⟩; have B4 : Aside0 (Below w.heap.size w w3) := ⟨B3.out.trans (hb3.mono B3.out.size)⟩; clear hb3 h0 h1 h2))
    go_ret
    exact ⟨rfl, B4.out⟩
  | false =>
    have hh := HH.out
    rw [if_neg (by decide)] at hh
    obtain ⟨u, hu, hh⟩ := Option.bind_eq_some_iff.mp hh
    have HU : Hid (nat_Text.f k z3 = some u) := hu
    have HL : Hid (t.size + u.size ≤ 1000000 ∧ ((t ++ (⟨#[47]⟩ : ByteArray)) ++ u) = r) := by
      split at hh
      · rename_i hl
        exact ⟨hl, Option.some.inj hh⟩
      · cases hh
    clear hu hh HH
    have hmx : Try.prog.follows .mixedOrders = true := by kernel_rfl
    go_enter Try.func16, Try.ntmps16
    go_wp2_with (first
      | (go_at_call 28; (with_reducible refine (rat_Make.calls k a0_0 A0_1 c0_1 l0_1 A0_2 c0_2 l0_2 z1 z2 z3 _ (Kd.C_below HR1.out.2 hb0.out) HR1.out.1 (Kd.C_below HR2.out.2 hb0.out) HR2.out.1 HZ.out).mono ?_); rintro e w1 ⟨v1, v2, rfl, hv1, hv2, hb1⟩; obtain ⟨A2, c2, rfl, hl2, hC2⟩ := Kd.R_reads hv1; obtain ⟨A3, c3, rfl, hl3, hC3⟩ := Kd.R_reads hv2; have B1 : Aside0 (Below w.heap.size w w1) := ⟨hb0.out.trans (hb1.mono hb0.out.size)⟩; have N1 := Aside0.mk (z09q bN.out hb1); have V1 := Aside0.mk (And.intro (And.intro hl2 hv1) (And.intro hl3 hv2)); have hlt1 : w.heap.size < (w.alloc (.cells #[.bool a0_0, .slice A0_1 l0_1.length c0_1, .slice A0_2 l0_2.length c0_2] 39)).heap.size := (by simp); have X2 := Aside0.mk (And.intro hl2 (C_box3 hv1 hlt1 (.bool z1) (.slice A2 z2.length c2) (.slice A3 z3.length c3))); have X3 := Aside0.mk (And.intro hl3 (C_box3 hv2 hlt1 (.bool z1) (.slice A2 z2.length c2) (.slice A3 z3.length c3))); have B2 := Aside0.mk (below_box3 B1.out (.bool z1) (.slice A2 z2.length c2) (.slice A3 z3.length c3)); have N2 := Aside0.mk (blk_put (blk_put (blk_put N1.out 0 (.bool z1) rfl) 1 (.slice A2 z2.length c2) rfl) 2 (.slice A3 z3.length c3) rfl); have g0 := z04q N2.out 0; have g1 := z04q N2.out 1; have g2 := z04q N2.out 2; clear hlt1; have f0 := z08q N1.out 0; have f1 := z08q N1.out 1; have f2 := z08q N1.out 2; have q0 : w1.cell? ⟨w.heap.size, 0, none⟩ = some (.bool a0_0) := (z04q N1.out 0).trans rfl; have q1 : w1.cell? ⟨w.heap.size, 1, none⟩ = some (.slice A0_1 l0_1.length c0_1) := (z04q N1.out 1).trans rfl; have q2 : w1.cell? ⟨w.heap.size, 2, none⟩ = some (.slice A0_2 l0_2.length c0_2) := (z04q N1.out 2).trans rfl; clear hb1 hv1 hv2 hl2 hl3 hC2 hC3)
      | (go_at_call 29; (with_reducible refine (rat_Whole.calls k z1 A2 c2 z2 A3 c3 z3 false _ X2.out.2 X2.out.1 X3.out.2 X3.out.1 HBW.out).mono ?_); rintro e w2 ⟨rfl, hb2⟩; have B3 : Aside0 (Below w.heap.size w w2) := ⟨B2.out.trans (hb2.mono B2.out.size)⟩; have N3 := Aside0.mk (z09q N2.out hb2); have Y2 := Aside0.mk (And.intro X2.out.1 (Kd.C_below X2.out.2 hb2)); have Y3 := Aside0.mk (And.intro X3.out.1 (Kd.C_below X3.out.2 hb2)); have h0 : w2.cell? ⟨w.heap.size, 0, none⟩ = some (.bool z1) := (z04q N3.out 0).trans rfl; have h1 : w2.cell? ⟨w.heap.size, 1, none⟩ = some (.slice A2 z2.length c2) := (z04q N3.out 1).trans rfl; have h2 : w2.cell? ⟨w.heap.size, 2, none⟩ = some (.slice A3 z3.length c3) := (z04q N3.out 2).trans rfl; clear hb2 g0 g1 g2 q0 q1 q2 f0 f1 f2))
    have hS0 : w2.drew.cell? ⟨w.heap.size, 0, none⟩ = some (.bool z1) ∧ w2.drew.cell? ⟨w.heap.size, 1, none⟩ = some (.slice A2 z2.length c2) ∧ w2.drew.cell? ⟨w.heap.size, 2, none⟩ = some (.slice A3 z3.length c3) := ⟨h0, h1, h2⟩
    clear h0 h1 h2
    have d1 : (9223372036854775807 < t.size + 1) = False := eq_false (by have := HL.out.1; omega)
    have d2 : (9223372036854775807 < t.size + 1 + u.size) = False := eq_false (by have := HL.out.1; omega)
    have d3 : (t.size + 1 ≤ 9223372036854775807) = True := eq_true (by have := HL.out.1; omega)
    have d4 : (t.size + 1 + u.size ≤ 9223372036854775807) = True := eq_true (by have := HL.out.1; omega)
    have D0 : Aside0 (Below w2.heap.size w2 w2.drew) := ⟨(Below.refl _ w2).drew⟩
    go_region_held3 (fun w' => w'.cell? ⟨w.heap.size, 0, none⟩ = some (.bool z1) ∧ w'.cell? ⟨w.heap.size, 1, none⟩ = some (.slice A2 z2.length c2) ∧ w'.cell? ⟨w.heap.size, 2, none⟩ = some (.slice A3 z3.length c3)) (first | assumption | go_keep) (first
      | (go_at_call 30; (with_reducible refine (whole_Text.calls k z1 A2 c2 z2 t _ (Kd.C_below Y2.out.2 D0.out) Y2.out.1 HT.out).mono ?_); rintro e w3 ⟨rfl, hb3⟩; have D1 : Aside0 (Below w2.heap.size w2 w3) := ⟨D0.out.trans (hb3.mono D0.out.size)⟩; have hS1 : w3.cell? ⟨w.heap.size, 0, none⟩ = some (.bool z1) ∧ w3.cell? ⟨w.heap.size, 1, none⟩ = some (.slice A2 z2.length c2) ∧ w3.cell? ⟨w.heap.size, 2, none⟩ = some (.slice A3 z3.length c3) := ⟨z15q hb3 hS0.1, z15q hb3 hS0.2.1, z15q hb3 hS0.2.2⟩; clear hb3 hS0)
      | (go_at_call 31; (with_reducible refine (nat_Text.calls k A3 c3 z3 u _ (Kd.C_below Y3.out.2 D1.out) Y3.out.1 HU.out).mono ?_); rintro e w4 ⟨rfl, hb4⟩; have D2 : Aside0 (Below w2.heap.size w2 w4) := ⟨D1.out.trans (hb4.mono D1.out.size)⟩; have hS2 : w4.cell? ⟨w.heap.size, 0, none⟩ = some (.bool z1) ∧ w4.cell? ⟨w.heap.size, 1, none⟩ = some (.slice A2 z2.length c2) ∧ w4.cell? ⟨w.heap.size, 2, none⟩ = some (.slice A3 z3.length c3) := ⟨z15q hb4 hS1.1, z15q hb4 hS1.2.1, z15q hb4 hS1.2.2⟩; clear hb4 hS1))
    go_wp2
    go_ret
    exact ⟨by rw [← HL.out.2]; rfl, B3.out.trans (D2.out.mono B3.out.size)⟩
set_option maxRecDepth 100000
def itemB (x : S46) : Bool := decide (1 ≤ x.f0 ∧ x.f0 ≤ 1048576 ∧ 0 ≤ x.f1 ∧ x.f1 ≤ 1024)
theorem itemB_eq (a b : Int) : stock_item.f a b = some (decide (1 ≤ a ∧ a ≤ 1048576 ∧ 0 ≤ b ∧ b ≤ 1024)) := by
  unfold stock_item.f stock_in.f
  by_cases h1 : a ≥ 1 <;> by_cases h2 : a ≤ 1048576 <;> by_cases h3 : b ≥ 0 <;> by_cases h4 : b ≤ 1024 <;> simp [h1, h2, h3, h4] <;> omega
theorem stock_Right1.calls (x : S46) (w : World) :
    Calls Try.prog 32 #[.agg #[.int .i64 x.f0, .int .i64 x.f1]] w fun e w' => e = .returned (.bool (!itemB x)) ∧ Below w.heap.size w w' := by
  have hI : Hid (stock_item.f x.f0 x.f1 = some (itemB x)) := itemB_eq x.f0 x.f1
  have hb0 : Aside0 (Below w.heap.size w (w.alloc (.cells #[.int .i64 x.f0, .int .i64 x.f1] 46))) := ⟨(Below.refl _ w).alloc (Nat.le_refl _) _⟩
  generalize itemB x = r at hI ⊢
  go_enter Try.func32, Try.ntmps32
  go_wp2_with (go_at_call 33; (with_reducible refine (stock_item.calls x.f0 x.f1 r _ hI.out).mono ?_); rintro e w1 ⟨rfl, hb1⟩; have HB1 : Aside0 (Below w.heap.size w w1) := ⟨hb0.out.trans (hb1.mono hb0.out.size)⟩; clear hb1)
  go_ret
  exact ⟨rfl, HB1.out⟩
def IdxItem (l : List S46) (w : World) (e : Ending) (w' : World) : Prop := ∃ n : Int, e = .returned (.int .i64 n) ∧ decide (0 ≤ n) = !(l.all itemB) ∧ Below w.heap.size w w'
theorem all_take_succ {α : Type} {p : α → Bool} {l : List α} {k : Nat} {d : α} (h : k < l.length) (h1 : (l.take k).all p = true) (h2 : p (l.getD k d) = true) : (l.take (k + 1)).all p = true := by
  rw [List.take_succ_eq_append_getElem h, List.all_append, h1]
  simp only [List.getD, List.getElem?_eq_getElem h, Option.getD_some] at h2
  simp [h2]
theorem all_false_of {α : Type} {p : α → Bool} {l : List α} {k : Nat} {d : α} (h : k < l.length) (h2 : p (l.getD k d) = false) : l.all p = false := by
  simp only [List.getD, List.getElem?_eq_getElem h, Option.getD_some] at h2
  rw [List.all_eq_false]
  exact ⟨_, List.getElem_mem h, by rw [h2]; decide⟩
set_option maxHeartbeats 4000000 in
theorem slices_IndexFunc_item.calls (A0 : Option Addr) (c0 : Nat) (l0 : List (S46)) (w : World) (hr0 : Kd.C k46 w A0 l0.length l0) :
    Calls Try.prog 53 #[.slice A0 l0.length c0, .func (.func 32) #[] #[]] w (IdxItem l0 w) := by
  have HR0 := Aside0.mk hr0
  have hlen : l0.length ≤ 9223372036854775807 := hr0.2.1
  clear hr0
  go_enter Try.func53, Try.ntmps53
  go_wp2
  go_loopg [5, 8] l0.length (fun gg _ s8 wr => ∃ kk : Nat, kk ≤ l0.length ∧ l0.length - kk ≤ gg ∧ s8 = .int .i64 kk ∧ Aside0 (Below w.heap.size w wr) ∧ Aside0 ((l0.take kk).all itemB = true))
  case atStart => exact ⟨0, Nat.zero_le _, by omega, rfl, ⟨Below.refl _ w⟩, ⟨by simp⟩⟩
  case round =>
    obtain ⟨kk, hkk, hg, rfl, BW, HA⟩ := hrel
    by_cases hlt : kk < l0.length
    · have hltz : (kk : Int) < (l0.length : Int) := by omega
      obtain ⟨ad, e0, hx0, hx1⟩ := at_T46 HR0.out (kk : Int) (by omega) (by omega)
      cases e0
      replace hx0 := (BW.out.cell (World.block_lt_of_cell? w _ hx0)).trans hx0
      replace hx1 := (BW.out.cell (World.block_lt_of_cell? w _ hx1)).trans hx1
      rw [show ((kk : Int)).toNat = kk from rfl] at hx0 hx1
      obtain ⟨y, hy⟩ : ∃ y, rd_T46 l0 (kk : Int) = y := ⟨_, rfl⟩
      rw [hy] at hx0 hx1
      have HY : Hid (rd_T46 l0 (kk : Int) = y) := hy
      clear hy
      have hcall := stock_Right1.calls y wr
      cases hq : itemB y with
      | false =>
        have HQ : Hid (itemB y = false) := hq
        rw [hq] at hcall
        have HC := Aside0.mk hcall
        clear hq hcall
        go_wp2_with (go_at_call 32; refine HC.out.mono ?_; rintro e w' ⟨rfl, hb'⟩)
        go_ret
        exact ⟨_, rfl, by rw [all_false_of hlt (by rw [show l0.getD kk z46 = y from HY.out]; exact HQ.out)]; exact decide_eq_true (by omega), BW.out.trans (hb'.mono BW.out.size)⟩
      | true =>
        have HQ : Hid (itemB y = true) := hq
        rw [hq] at hcall
        have HC := Aside0.mk hcall
        clear hq hcall
        go_wp2_with (go_at_call 32; refine HC.out.mono ?_; rintro e w' ⟨rfl, hb'⟩)
        go_roundg (l0.length - (kk + 1))
        case measure => omega
        case rel => exact ⟨kk + 1, by omega, by omega, by go_num, ⟨BW.out.trans (hb'.mono BW.out.size)⟩, ⟨all_take_succ hlt HA.out (by rw [show l0.getD kk z46 = y from HY.out]; exact HQ.out)⟩⟩
    · have hltz : ¬ (kk : Int) < (l0.length : Int) := by omega
      have hkl : Hid (kk = l0.length) := Nat.le_antisymm hkk (by omega)
      go_wp2
      go_ret
      refine ⟨_, rfl, ?_, BW.out⟩
      have h1 := HA.out
      rw [hkl.out, List.take_length] at h1
      rw [h1]
      rfl
def AnyItem (l : List S46) (w : World) (e : Ending) (w' : World) : Prop := e = .returned (.bool (!(l.all itemB))) ∧ Below w.heap.size w w'
theorem slices_ContainsFunc_item.calls (A0 : Option Addr) (c0 : Nat) (l0 : List (S46)) (w : World) (hr0 : Kd.C k46 w A0 l0.length l0) :
    Calls Try.prog 35 #[.slice A0 l0.length c0, .func (.func 32) #[] #[]] w (AnyItem l0 w) := by
  have HR0 := Aside0.mk hr0
  clear hr0
  go_enter Try.func35, Try.ntmps35
  go_wp2_with (go_at_call 53; refine (slices_IndexFunc_item.calls A0 c0 l0 w HR0.out).mono ?_; rintro e w' ⟨n, rfl, hn, hb'⟩; have HN : Hid (decide (0 ≤ n) = !(l0.all itemB)) := hn; have HB := Aside0.mk hb'; clear hn hb')
  go_ret
  exact ⟨by rw [← HN.out]; rfl, HB.out⟩
def stock_Right.f (a0 : Int) (l : List S46) : Option Bool := some (decide (1 ≤ a0 ∧ a0 ≤ 1048576) && decide (l.length ≤ 60) && l.all itemB)
set_option maxHeartbeats 4000000 in
theorem stock_Right.calls (a0_0 : Int) (A0_1 : Option Addr) (c0_1 : Nat) (l0_1 : List (S46)) (r : Bool) (w : World) (hr0_1 : Kd.C k46 w A0_1 l0_1.length l0_1) (hc0_1 : l0_1.length ≤ c0_1) (h : stock_Right.f a0_0 l0_1 = some r) :
    Calls Try.prog 18 #[.agg #[.int .i64 a0_0, .slice A0_1 l0_1.length c0_1]] w fun e w' => e = .returned (.bool r) ∧ Below w.heap.size w w' := by
  have HR := Aside0.mk hr0_1
  have hI : stock_in.f a0_0 1 1048576 = some (decide (1 ≤ a0_0 ∧ a0_0 ≤ 1048576)) := by
    unfold stock_in.f
    by_cases h1 : a0_0 ≥ 1 <;> by_cases h2 : a0_0 ≤ 1048576 <;> simp [h1, h2] <;> omega
  have HH : Hid (stock_Right.f a0_0 l0_1 = some r) := h
  have hb0 : Aside0 (Below w.heap.size w (w.alloc (.cells #[.int .i64 a0_0, .slice A0_1 l0_1.length c0_1] 24))) := ⟨(Below.refl _ w).alloc (Nat.le_refl _) _⟩
  have bN : Aside0 ((w.alloc (.cells #[.int .i64 a0_0, .slice A0_1 l0_1.length c0_1] 24)).heap[w.heap.size]? = some (.cells #[.int .i64 a0_0, .slice A0_1 l0_1.length c0_1] 24)) := ⟨World.alloc_heap_new w _⟩
  clear h hr0_1 hc0_1
  obtain ⟨p, hp⟩ : ∃ p, decide (1 ≤ a0_0 ∧ a0_0 ≤ 1048576) = p := ⟨_, rfl⟩
  rw [hp] at hI
  have HP : Hid (decide (1 ≤ a0_0 ∧ a0_0 ≤ 1048576) = p) := hp
  have HI : Hid (stock_in.f a0_0 1 1048576 = some p) := hI
  clear hp hI
  cases p with
  | false =>
    obtain rfl : r = false := by
      have := HH.out
      unfold stock_Right.f at this
      rw [HP.out] at this
      simpa using this.symm
    clear HH HP
    go_enter Try.func18, Try.ntmps18
    go_wp2_with (go_at_call 34; (with_reducible refine (stock_in.calls a0_0 1 1048576 false _ HI.out).mono ?_); rintro e w1 ⟨rfl, hd⟩; have HB1 : Aside0 (Below w.heap.size w w1) := ⟨hb0.out.trans (hd.below.mono hb0.out.size)⟩; clear hd)
    go_ret
    exact ⟨rfl, HB1.out⟩
  | true =>
    by_cases h60 : l0_1.length ≤ 60
    · have d60 : decide ((l0_1.length : Int) ≤ 60) = true := decide_eq_true (by omega)
      have d60' : decide (l0_1.length ≤ 60) = true := decide_eq_true h60
      obtain rfl : r = l0_1.all itemB := by
        have := HH.out
        unfold stock_Right.f at this
        rw [HP.out, d60'] at this
        simpa using this.symm
      clear HH HP h60
      go_enter Try.func18, Try.ntmps18
      go_wp2_with (first
        | (go_at_call 34; (with_reducible refine (stock_in.calls a0_0 1 1048576 true _ HI.out).mono ?_); rintro e w1 ⟨rfl, hd⟩; have HB1 : Aside0 (Below w.heap.size w w1) := ⟨hb0.out.trans (hd.below.mono hb0.out.size)⟩; have N1 := Aside0.mk (z09q bN.out hd.below); have c1 : w1.cell? ⟨w.heap.size, 1, none⟩ = some (.slice A0_1 l0_1.length c0_1) := (z04q N1.out 1).trans rfl; clear hd)
        | (go_at_call 35; (with_reducible refine (slices_ContainsFunc_item.calls A0_1 c0_1 l0_1 _ (Kd.C_below HR.out HB1.out)).mono ?_); rintro e w2 ⟨rfl, hb2⟩; have HB2 : Aside0 (Below w.heap.size w w2) := ⟨HB1.out.trans (hb2.mono HB1.out.size)⟩; clear hb2))
      go_ret
      exact ⟨by simp, HB2.out⟩
    · have d60 : decide ((l0_1.length : Int) ≤ 60) = false := decide_eq_false (by omega)
      have d60' : decide (l0_1.length ≤ 60) = false := decide_eq_false h60
      obtain rfl : r = false := by
        have := HH.out
        unfold stock_Right.f at this
        rw [d60'] at this
        simpa using this.symm
      clear HH HP h60
      go_enter Try.func18, Try.ntmps18
      go_wp2_with (first
        | (go_at_call 34; (with_reducible refine (stock_in.calls a0_0 1 1048576 true _ HI.out).mono ?_); rintro e w1 ⟨rfl, hd⟩; have HB1 : Aside0 (Below w.heap.size w w1) := ⟨hb0.out.trans (hd.below.mono hb0.out.size)⟩; have N1 := Aside0.mk (z09q bN.out hd.below); have c1 : w1.cell? ⟨w.heap.size, 1, none⟩ = some (.slice A0_1 l0_1.length c0_1) := (z04q N1.out 1).trans rfl; clear hd))
      go_ret
      exact ⟨rfl, HB1.out⟩
end Go.Proofs.Ytgnffmbaecabnaa.M
