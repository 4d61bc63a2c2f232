-- Printed by a program of this session's own (wip/myprint.py), out of the kit's print with functions given by hand. Lean checks it.
import Derived.Test.YtgnffmbaecabnaaM0
import Derived.Test.YtgnffmbaecabnaaM2
import Derived.Test.YtgnffmbaecabnaaM4
import Derived.Test.YtgnffmbaecabnaaM8
import Derived.Test.YtgnffmbaecabnaaM9
import Derived.Test.YtgnffmbaecabnaaM10
namespace Go.Proofs.Ytgnffmbaecabnaa.M
open Go.RowKit Go.Shelf Go.Proofs.YtgnffmbaecabnaaW.PrintWords Go.Proofs.YtgnffmbaecabnaaW.PrintLast Go.Proofs.YtgnffmbaecabnaaW.PrintMore
attribute [local go_sem] max2_int min2_int max_two min_two max_three min_three max_four min_four   -- for this text's walks alone
set_option linter.unusedVariables false
set_option linter.unusedSimpArgs false

/-! ### offcutlaw16_awake: function 10 -/
set_option maxRecDepth 100000
/-! ### offcutlaw16.awake (by hand) -/
def offcutlaw16_awake.f (_k : Nat) : Option Bool := some true
theorem offcutlaw16_awake.mono : ∀ k, LeO (offcutlaw16_awake.f k) (offcutlaw16_awake.f (k + 1)) := fun _ => LeO.refl _
theorem aw_ints : vec_Ints.f 100 [5, 3] = some [toS 5, toS 3] := by kernel_rfl
theorem aw_text : rat_Text.f 100 (toS 6).f0.f0 (toS 6).f0.f1 (toS 6).f1 = some ⟨#[54]⟩ := by decide +kernel
theorem aw_fits : knap_Fits.f 100 10 [⟨6, 2⟩, ⟨5, 2⟩] [0, 2] = some true := by decide +kernel
theorem aw_use : knap_Use.f 100 10 [⟨6, 2⟩, ⟨5, 2⟩] [0, 2] = some 10 := by decide +kernel
theorem aw_best : knap_Best.f 10 [⟨6, 2⟩, ⟨5, 2⟩] [toS 5, toS 3] = some ((toS 6).f0.f0, (toS 6).f0.f1, (toS 6).f1, [0, 2], 0) := by decide +kernel
theorem aw_all : ∃ (ls : List S39) (m : Bool) (nu de : List Int), vec_Ints.f 100 [5, 3] = some ls ∧ knap_Best.f 10 [⟨6, 2⟩, ⟨5, 2⟩] ls = some (m, nu, de, [0, 2], 0) ∧ rat_Text.f 100 m nu de = some ⟨#[54]⟩ := ⟨_, _, _, _, aw_ints, aw_best, aw_text⟩
theorem C_lit2 {w : World} {g : Nat} {t : Nat} {x y : Int} (h : w.heap[g]? = some (.cells #[.int .i64 x, .int .i64 y] t (0, 0))) : Kd.C (Kd.int .i64) w (some ⟨g, 0, none⟩) 2 [x, y] := by
  refine ⟨rfl, by decide, fun _ => ⟨_, rfl, fun j p hp => ?_⟩⟩
  match j, hp with
  | 0, hp =>
    obtain rfl : x = p := by simpa using hp
    refine ⟨[.int .i64 x], rfl, rfl, fun i u hu => ?_⟩
    match i, hu with
    | 0, hu => obtain rfl : Value.int .i64 x = u := by simpa using hu
               exact (blk_cell h 0).trans rfl
    | i + 1, hu => simp at hu
  | 1, hp =>
    obtain rfl : y = p := by simpa using hp
    refine ⟨[.int .i64 y], rfl, rfl, fun i u hu => ?_⟩
    match i, hu with
    | 0, hu => obtain rfl : Value.int .i64 y = u := by simpa using hu
               exact (blk_cell h 1).trans rfl
    | i + 1, hu => simp at hu
  | j + 2, hp => simp at hp
theorem C_items2 {w : World} {g : Nat} {t : Nat} {x y x' y' : Int} (h : w.heap[g]? = some (.cells #[.int .i64 x, .int .i64 y, .int .i64 x', .int .i64 y'] t (0, 0))) : Kd.C k46 w (some ⟨g, 0, none⟩) 2 [⟨x, y⟩, ⟨x', y'⟩] := by
  refine ⟨rfl, by decide, fun _ => ⟨_, rfl, fun j p hp => ?_⟩⟩
  match j, hp with
  | 0, hp =>
    obtain rfl : (⟨x, y⟩ : S46) = p := by simpa using hp
    refine ⟨_, rfl, k46_mk w _, fun i u hu => ?_⟩
    match i, hu with
    | 0, hu => obtain rfl : Value.int .i64 x = u := by simpa using hu
               exact (blk_cell h 0).trans rfl
    | 1, hu => obtain rfl : Value.int .i64 y = u := by simpa using hu
               exact (blk_cell h 1).trans rfl
    | i + 2, hu => simp at hu
  | 1, hp =>
    obtain rfl : (⟨x', y'⟩ : S46) = p := by simpa using hp
    refine ⟨_, rfl, k46_mk w _, fun i u hu => ?_⟩
    match i, hu with
    | 0, hu => obtain rfl : Value.int .i64 x' = u := by simpa using hu
               exact (blk_cell h 2).trans rfl
    | 1, hu => obtain rfl : Value.int .i64 y' = u := by simpa using hu
               exact (blk_cell h 3).trans rfl
    | i + 2, hu => simp at hu
  | j + 2, hp => simp at hp
/-- The three rows of a choice: its worth's digits and its counts. -/
def Rows3 (W : World) (v1 v2 v3 : Value) (r2 r3 r4 : List Int) : Prop := ∃ (base : Nat) (o1 o2 o3 : Nat → Prop), Kd.R (Kd.int .u32) 96 W base o1 v1 r2 ∧ Kd.R (Kd.int .u32) 96 W base o2 v2 r3 ∧ Kd.R (Kd.int .i64) 3 W base o3 v3 r4
theorem Rows3.below {W W1 : World} {v1 v2 v3 : Value} {r2 r3 r4 : List Int} (h : Rows3 W v1 v2 v3 r2 r3 r4) (hb : Below W.heap.size W W1) : Rows3 W1 v1 v2 v3 r2 r3 r4 := by
  obtain ⟨b, o1, o2, o3, h1, h2, h3⟩ := h
  exact ⟨b, o1, o2, o3, Kd.R_below h1 hb, Kd.R_below h2 hb, Kd.R_below h3 hb⟩
theorem R_set4 {α : Type} {d : Kd α} {e : Nat} {w : World} {base : Nat} {ok : Nat → Prop} {v : Value} {xs : List α} (h : d.R e w base ok v xs) {g t : Nat} {cells : Array Value} (hb : w.heap[g]? = some (.cells cells t (0, 0))) (ht : ∀ q, q ∈ e :: d.E → q ≠ t) (x y z u : Value) : d.R e (set4 w g x y z u) base (fun k => ok k ∧ k ≠ g) v xs :=
  Kd.R_far (p := ⟨g, 3, none⟩) (Kd.R_far (p := ⟨g, 2, none⟩) (Kd.R_far (p := ⟨g, 1, none⟩) (Kd.R_far (p := ⟨g, 0, none⟩) (Kd.R_types h hb ht) (fun _ hk => hk.2) x) (fun _ hk => hk.2) y) (fun _ hk => hk.2) z) (fun _ hk => hk.2) u
theorem Rows3.set4 {W : World} {v1 v2 v3 : Value} {r2 r3 r4 : List Int} (h : Rows3 W v1 v2 v3 r2 r3 r4) {g : Nat} {cells : Array Value} (hb : W.heap[g]? = some (.cells cells 41 (0, 0))) (x y z u : Value) : Rows3 (set4 W g x y z u) v1 v2 v3 r2 r3 r4 := by
  obtain ⟨b, o1, o2, o3, h1, h2, h3⟩ := h
  exact ⟨b, _, _, _, R_set4 h1 hb (by decide) x y z u, R_set4 h2 hb (by decide) x y z u, R_set4 h3 hb (by decide) x y z u⟩
theorem Rows3.reads {W : World} {E1 E2 E3 : Option Addr} {n1 n2 n3 c1 c2 c3 : Nat} {r2 r3 r4 : List Int} (h : Rows3 W (.slice E1 n1 c1) (.slice E2 n2 c2) (.slice E3 n3 c3) r2 r3 r4) :
    (n1 = r2.length ∧ n1 ≤ c1 ∧ Kd.C (Kd.int .u32) W E1 r2.length r2) ∧ (n2 = r3.length ∧ n2 ≤ c2 ∧ Kd.C (Kd.int .u32) W E2 r3.length r3) ∧ (n3 = r4.length ∧ n3 ≤ c3 ∧ Kd.C (Kd.int .i64) W E3 r4.length r4) := by
  obtain ⟨b, o1, o2, o3, h1, h2, h3⟩ := h
  exact ⟨Kd.R_reads' h1, Kd.R_reads' h2, Kd.R_reads' h3⟩
/-- The choice in its box at X, with its three rows, in a world that is nothing but more than Y. -/
def AwF (Y F : World) (X : Nat) (q0 : Bool) (E1 E2 : Option Addr) (ad : Addr) (c1 c2 c3 : Nat) (q1 q2 : List Int) : Prop :=
  Below Y.heap.size Y F ∧ F.heap[X]? = some (.cells #[.bool q0, .slice E1 q1.length c1, .slice E2 q2.length c2, .slice (some ad) 2 c3] 41 (0, 0)) ∧ Kd.C (Kd.int .u32) F E1 q1.length q1 ∧ Kd.C (Kd.int .u32) F E2 q2.length q2 ∧ Kd.C (Kd.int .i64) F (some ad) 2 [0, 2] ∧ F.cell? ⟨ad.block, ad.off + 1, none⟩ = some (.int .i64 2)
theorem AwF.mk' {Y F : World} {X : Nat} {q0 : Bool} {E1 E2 : Option Addr} {ad : Addr} {c1 c2 c3 : Nat} {q1 q2 : List Int} (h1 : Below Y.heap.size Y F) (h2 : F.heap[X]? = some (.cells #[.bool q0, .slice E1 q1.length c1, .slice E2 q2.length c2, .slice (some ad) 2 c3] 41 (0, 0))) (h3 : Kd.C (Kd.int .u32) F E1 q1.length q1) (h4 : Kd.C (Kd.int .u32) F E2 q2.length q2) (h5 : Kd.C (Kd.int .i64) F (some ad) 2 [0, 2]) (h6 : F.cell? ⟨ad.block, ad.off + 1, none⟩ = some (.int .i64 2)) : AwF Y F X q0 E1 E2 ad c1 c2 c3 q1 q2 := ⟨h1, h2, h3, h4, h5, h6⟩
theorem AwF.below {Y F G : World} {X : Nat} {q0 : Bool} {E1 E2 : Option Addr} {ad : Addr} {c1 c2 c3 : Nat} {q1 q2 : List Int} (h : AwF Y F X q0 E1 E2 ad c1 c2 c3 q1 q2) (hb : Below F.heap.size F G) : AwF Y G X q0 E1 E2 ad c1 c2 c3 q1 q2 :=
  ⟨h.1.trans (hb.mono h.1.size), blk_below h.2.1 hb, Kd.C_below h.2.2.1 hb, Kd.C_below h.2.2.2.1 hb, Kd.C_below h.2.2.2.2.1 hb, pw_cell_below hb h.2.2.2.2.2⟩
theorem AwF.cells {Y F : World} {X : Nat} {q0 : Bool} {E1 E2 : Option Addr} {ad : Addr} {c1 c2 c3 : Nat} {q1 q2 : List Int} (h : AwF Y F X q0 E1 E2 ad c1 c2 c3 q1 q2) : F.cell? ⟨X, 0, none⟩ = some (.bool q0) ∧ F.cell? ⟨X, 1, none⟩ = some (.slice E1 q1.length c1) ∧ F.cell? ⟨X, 2, none⟩ = some (.slice E2 q2.length c2) ∧ F.cell? ⟨X, 3, none⟩ = some (.slice (some ad) 2 c3) := by
  obtain ⟨g0, g1, g2, g3, -⟩ := box4_cells h.2.1
  exact ⟨g0, g1, g2, g3⟩
section
attribute [local go_sem] Oper.semAt_some
set_option maxHeartbeats 8000000 in
theorem offcutlaw16_awake.calls (k : Nat) (r : Bool) (w : World) (h : offcutlaw16_awake.f k = some r) :
    Calls Try.prog 10 #[] w fun e w' => e = .returned (.bool r) ∧ Below w.heap.size w w' := by
  obtain rfl : true = r := Option.some.inj h
  clear h
  have hmx : Try.prog.follows .mixedOrders = true := by kernel_rfl
  obtain ⟨ls, q0, q1, q2, hls, hq, hqt⟩ := aw_all
  have HINT := Aside0.mk hls
  have HBEST := Aside0.mk hq
  have HTEXT := Aside0.mk hqt
  have HFITS := Aside0.mk aw_fits
  have HUSE := Aside0.mk aw_use
  clear hls hq hqt
  refine (callsIn_wide (n := 8)).1 ?_
  refine callsIn_of_wp_marks Try.func10 rfl trivial ?_ rfl
  refine wpIn_noPanic ?_
  simp only [Try.ntmps10, List.size_toArray, List.length_cons, List.length_nil, Nat.reduceAdd, Nat.reduceSub, Array.replicate_succ, Array.replicate_zero, List.push_toArray, List.append_toArray, List.nil_append, List.cons_append]
  gi_wp2
  have hYB : Below w.heap.size w ((w.alloc (.cells #[.int .i64 6, .int .i64 2, .int .i64 5, .int .i64 2] 46)).alloc (.cells #[.int .i64 10, .slice (some ⟨w.heap.size, 0, none⟩) 2 2] 24)) := ((Below.refl _ w).alloc (Nat.le_refl _) _).alloc (by simp) _
  have hYi := blk_alloc (World.alloc_heap_new w (.cells #[.int .i64 6, .int .i64 2, .int .i64 5, .int .i64 2] 46)) (.cells #[.int .i64 10, .slice (some ⟨w.heap.size, 0, none⟩) 2 2] 24)
  have hYb := World.alloc_heap_new (w.alloc (.cells #[.int .i64 6, .int .i64 2, .int .i64 5, .int .i64 2] 46)) (.cells #[.int .i64 10, .slice (some ⟨w.heap.size, 0, none⟩) 2 2] 24)
  rw [World.size_alloc] at hYb
  obtain ⟨Y, hY⟩ : ∃ Y, ((w.alloc (.cells #[.int .i64 6, .int .i64 2, .int .i64 5, .int .i64 2] 46)).alloc (.cells #[.int .i64 10, .slice (some ⟨w.heap.size, 0, none⟩) 2 2] 24)) = Y := ⟨_, rfl⟩
  rw [hY] at hYB hYi hYb ⊢
  clear hY
  obtain ⟨s0, s1⟩ := xbox_cells hYb
  have HC0 := Aside0.mk (C_items2 hYi)
  have HYB := Aside0.mk hYB
  have HYb := Aside0.mk hYb
  clear hYi hYB hYb
  have hS0 : Below Y.heap.size Y Y.drew := (Below.refl _ Y).drew
  refine wpIn_region_held (fun w' => BelowS Y w') hmx ?_
  show wpAnyHIn _ _ _ _ _ _ _ 10 #[false, false, false, false, false, false, false, false, false, false] _ _
  obtain ⟨Y0, hY0⟩ : ∃ V, Y.drew = V := ⟨_, rfl⟩
  rw [hY0] at hS0 ⊢
  clear hY0
  refine wpAnyHIn_takeAt (i := 0) (v := .agg #[.int .i64 10, .slice (some ⟨w.heap.size, 0, none⟩) 2 2]) (dst := 9) (by kernel_rfl) rfl rfl (by kernel_rfl) (by kernel_rfl) (by kernel_rfl) (fun _ _ _ h => h) ⟨Or.inl ⟨by rfl, fun w' hw' => ?_⟩, fun _ => rfl⟩ hS0 ?_
  · (have gg0 := pw_cell_below hw' s0; have gg1 := pw_cell_below hw' s1; go_simp)
  simp only [List.setIfInBounds_toArray, List.set_cons_zero, List.set_cons_succ]
  refine wpAnyHIn_two (i := 1) (j := 7) (by kernel_rfl) rfl rfl (fun K hK => ?oa) (fun K hK => ?ob)
  case' oa =>
    go_simp
    have hb1 : Below Y.heap.size Y (Y0.alloc (.cells #[.int .i64 5, .int .i64 3] 3)) := hS0.alloc hS0.size _
    have hn1 : (Y0.alloc (.cells #[.int .i64 5, .int .i64 3] 3)).heap[Y0.heap.size]? = some (.cells #[.int .i64 5, .int .i64 3] 3 (0, 0)) := World.alloc_heap_new Y0 _
    obtain ⟨w1, hW1⟩ : ∃ V, (Y0.alloc (.cells #[.int .i64 5, .int .i64 3] 3)) = V := ⟨_, rfl⟩
    rw [hW1] at hb1 hn1 ⊢
    clear hW1
    refine hK _ _ hb1 ?_
    clear hK K
    simp only [List.setIfInBounds_toArray, List.set_cons_zero, List.set_cons_succ]
    refine wpAnyHIn_two (i := 2) (j := 7) (by kernel_rfl) rfl rfl (fun K hK => ?oaa) (fun K hK => ?oab)
    case' oaa =>
      go_simp
      refine ⟨trivial, ?_⟩
      refine (callsIn_wide.2 (vec_Ints.calls 100 (some ⟨Y0.heap.size, 0, none⟩) 2 [5, 3] ls w1 (C_lit2 hn1) (by decide) HINT.out)).mono ?_
      rintro e wi2 ⟨v_, rfl, hv, hb⟩
      obtain ⟨Ai, ci, rfl, hli, hCi⟩ := Kd.S_reads hv
      have hb2 : Below Y.heap.size Y wi2 := hb1.trans (hb.mono hb1.size)
      clear hv hb
      refine hK _ _ hb2 ?_
      clear hK K
      simp only [List.setIfInBounds_toArray, List.set_cons_zero, List.set_cons_succ]
      refine wpAnyHIn_two (i := 3) (j := 7) (by kernel_rfl) rfl rfl (fun K hK => ?oaaa) (fun K hK => ?oaab)
      case' oaaa =>
        go_simp
        refine ⟨trivial, ?_⟩
        refine (callsIn_wide.2 (knap_Best.calls 10 (some ⟨w.heap.size, 0, none⟩) 2 [⟨6, 2⟩, ⟨5, 2⟩] Ai ci ls q0 q1 q2 [0, 2] 0 wi2 (Kd.C_below HC0.out hb2) (by decide) hCi hli HBEST.out)).mono ?_
        rintro e we ⟨v1, v2, v3, rfl, hv1, hv2, hv3, hb⟩
        obtain ⟨E1, ec1, rfl, -, -⟩ := Kd.R_reads hv1
        obtain ⟨E2, ec2, rfl, -, -⟩ := Kd.R_reads hv2
        obtain ⟨E3, ec3, rfl, -, -⟩ := Kd.R_reads hv3
        have hb3 : Below Y.heap.size Y we := hb2.trans (hb.mono hb2.size)
        have hr3 : Rows3 we (.slice E1 q1.length ec1) (.slice E2 q2.length ec2) (.slice E3 2 ec3) q1 q2 [0, 2] := ⟨_, _, _, _, hv1, hv2, hv3⟩
        clear hv1 hv2 hv3 hb
        refine hK _ _ hb3 ?_
        clear hK K
        simp only [List.setIfInBounds_toArray, List.set_cons_zero, List.set_cons_succ]
        refine wpAnyHIn_takeAt (i := 4) (v := .tuple #[.agg #[.bool q0, .slice E1 q1.length ec1, .slice E2 q2.length ec2, .slice E3 2 ec3], .int .i64 0]) (dst := 8) (by kernel_rfl) rfl rfl (by kernel_rfl) (by kernel_rfl) (by kernel_rfl) (fun _ _ _ h => h) ⟨Or.inl ⟨by rfl, fun w' hw' => ?_⟩, fun _ => rfl⟩ hb3 ?_
        · (go_simp)
        simp only [List.setIfInBounds_toArray, List.set_cons_zero, List.set_cons_succ]
        refine wpAnyHIn_takeAt (i := 5) (v := .agg #[.bool q0, .slice E1 q1.length ec1, .slice E2 q2.length ec2, .slice E3 2 ec3]) (dst := 13) (by kernel_rfl) rfl rfl (by kernel_rfl) (by kernel_rfl) (by kernel_rfl) (fun _ _ _ h => h) ⟨Or.inl ⟨by rfl, fun w' hw' => ?_⟩, fun _ => rfl⟩ hb3 ?_
        · (go_simp)
        simp only [List.setIfInBounds_toArray, List.set_cons_zero, List.set_cons_succ]
        refine wpAnyHIn_takeAt (i := 6) (v := .int .i64 0) (dst := 14) (by kernel_rfl) rfl rfl (by kernel_rfl) (by kernel_rfl) (by kernel_rfl) (fun _ _ _ h => h) ⟨Or.inl ⟨by rfl, fun w' hw' => ?_⟩, fun _ => rfl⟩ hb3 ?_
        · (go_simp)
        simp only [List.setIfInBounds_toArray, List.set_cons_zero, List.set_cons_succ]
        refine wpAnyHIn_one (i := 7) (by kernel_rfl) rfl (fun K hK => ?_)
        go_simp
        have hb4 : Below Y.heap.size Y (we.alloc (.cells #[.bool false, .slice none 0 0, .slice none 0 0, .slice none 0 0] 41)) := hb3.alloc hb3.size _
        have hn4 : (we.alloc (.cells #[.bool false, .slice none 0 0, .slice none 0 0, .slice none 0 0] 41)).heap[we.heap.size]? = some (.cells #[.bool false, .slice none 0 0, .slice none 0 0, .slice none 0 0] 41 (0, 0)) := World.alloc_heap_new we _
        have hr4 := Rows3.below hr3 ((Below.refl _ we).alloc (Nat.le_refl _) (.cells #[.bool false, .slice none 0 0, .slice none 0 0, .slice none 0 0] 41))
        obtain ⟨w4, hW4⟩ : ∃ V, (we.alloc (.cells #[.bool false, .slice none 0 0, .slice none 0 0, .slice none 0 0] 41)) = V := ⟨_, rfl⟩
        rw [hW4] at hb4 hn4 hr4 ⊢
        clear hW4
        refine hK _ _ hb4 ?_
        clear hK K
        simp only [List.setIfInBounds_toArray, List.set_cons_zero, List.set_cons_succ]
        have hX0 : Y.heap.size ≤ we.heap.size := hb3.size
        obtain ⟨X, hXe⟩ : ∃ X, we.heap.size = X := ⟨_, rfl⟩
        obtain ⟨Z, hZe⟩ : ∃ Z, w4 = Z := ⟨_, rfl⟩
        have HZ : Aside0 (Below Y.heap.size Y Z ∧ Z.heap[X]? = some (.cells #[.bool false, .slice none 0 0, .slice none 0 0, .slice none 0 0] 41 (0, 0)) ∧ Rows3 Z (.slice E1 q1.length ec1) (.slice E2 q2.length ec2) (.slice E3 2 ec3) q1 q2 [0, 2] ∧ Y.heap.size ≤ X) := ⟨by rw [← hZe]; exact hb4, by rw [← hXe, ← hZe]; exact hn4, by rw [← hZe]; exact hr4, by rw [← hXe]; exact hX0⟩
        rw [hXe, hZe]
        clear hXe hZe hX0 hb4 hn4 hr4
      case' oaab =>
        go_simp
        have hb5 : Below Y.heap.size Y (wi2.alloc (.cells #[.bool false, .slice none 0 0, .slice none 0 0, .slice none 0 0] 41)) := hb2.alloc hb2.size _
        have hn5 : (wi2.alloc (.cells #[.bool false, .slice none 0 0, .slice none 0 0, .slice none 0 0] 41)).heap[wi2.heap.size]? = some (.cells #[.bool false, .slice none 0 0, .slice none 0 0, .slice none 0 0] 41 (0, 0)) := World.alloc_heap_new wi2 _
        have hi5 := Kd.C_below hCi ((Below.refl _ wi2).alloc (Nat.le_refl _) (.cells #[.bool false, .slice none 0 0, .slice none 0 0, .slice none 0 0] 41))
        obtain ⟨w5, hW5⟩ : ∃ V, (wi2.alloc (.cells #[.bool false, .slice none 0 0, .slice none 0 0, .slice none 0 0] 41)) = V := ⟨_, rfl⟩
        rw [hW5] at hb5 hn5 hi5 ⊢
        clear hW5
        refine hK _ _ hb5 ?_
        clear hK K
        simp only [List.setIfInBounds_toArray, List.set_cons_zero, List.set_cons_succ]
        refine wpAnyHIn_one (i := 3) (by kernel_rfl) rfl (fun K hK => ?_)
        go_simp
        refine ⟨trivial, ?_⟩
        refine (callsIn_wide.2 (knap_Best.calls 10 (some ⟨w.heap.size, 0, none⟩) 2 [⟨6, 2⟩, ⟨5, 2⟩] Ai ci ls q0 q1 q2 [0, 2] 0 w5 (Kd.C_below HC0.out hb5) (by decide) hi5 hli HBEST.out)).mono ?_
        rintro e we ⟨v1, v2, v3, rfl, hv1, hv2, hv3, hb⟩
        obtain ⟨E1, ec1, rfl, -, -⟩ := Kd.R_reads hv1
        obtain ⟨E2, ec2, rfl, -, -⟩ := Kd.R_reads hv2
        obtain ⟨E3, ec3, rfl, -, -⟩ := Kd.R_reads hv3
        have hb6 : Below Y.heap.size Y we := hb5.trans (hb.mono hb5.size)
        have hr6 : Rows3 we (.slice E1 q1.length ec1) (.slice E2 q2.length ec2) (.slice E3 2 ec3) q1 q2 [0, 2] := ⟨_, _, _, _, hv1, hv2, hv3⟩
        have hx6 := blk_below hn5 hb
        clear hv1 hv2 hv3 hb
        refine hK _ _ hb6 ?_
        clear hK K
        simp only [List.setIfInBounds_toArray, List.set_cons_zero, List.set_cons_succ]
        refine wpAnyHIn_takeAt (i := 4) (v := .tuple #[.agg #[.bool q0, .slice E1 q1.length ec1, .slice E2 q2.length ec2, .slice E3 2 ec3], .int .i64 0]) (dst := 8) (by kernel_rfl) rfl rfl (by kernel_rfl) (by kernel_rfl) (by kernel_rfl) (fun _ _ _ h => h) ⟨Or.inl ⟨by rfl, fun w' hw' => ?_⟩, fun _ => rfl⟩ hb6 ?_
        · (go_simp)
        simp only [List.setIfInBounds_toArray, List.set_cons_zero, List.set_cons_succ]
        refine wpAnyHIn_takeAt (i := 5) (v := .agg #[.bool q0, .slice E1 q1.length ec1, .slice E2 q2.length ec2, .slice E3 2 ec3]) (dst := 13) (by kernel_rfl) rfl rfl (by kernel_rfl) (by kernel_rfl) (by kernel_rfl) (fun _ _ _ h => h) ⟨Or.inl ⟨by rfl, fun w' hw' => ?_⟩, fun _ => rfl⟩ hb6 ?_
        · (go_simp)
        simp only [List.setIfInBounds_toArray, List.set_cons_zero, List.set_cons_succ]
        refine wpAnyHIn_takeAt (i := 6) (v := .int .i64 0) (dst := 14) (by kernel_rfl) rfl rfl (by kernel_rfl) (by kernel_rfl) (by kernel_rfl) (fun _ _ _ h => h) ⟨Or.inl ⟨by rfl, fun w' hw' => ?_⟩, fun _ => rfl⟩ hb6 ?_
        · (go_simp)
        simp only [List.setIfInBounds_toArray, List.set_cons_zero, List.set_cons_succ]
        have hX0 : Y.heap.size ≤ wi2.heap.size := hb2.size
        obtain ⟨X, hXe⟩ : ∃ X, wi2.heap.size = X := ⟨_, rfl⟩
        obtain ⟨Z, hZe⟩ : ∃ Z, we = Z := ⟨_, rfl⟩
        have HZ : Aside0 (Below Y.heap.size Y Z ∧ Z.heap[X]? = some (.cells #[.bool false, .slice none 0 0, .slice none 0 0, .slice none 0 0] 41 (0, 0)) ∧ Rows3 Z (.slice E1 q1.length ec1) (.slice E2 q2.length ec2) (.slice E3 2 ec3) q1 q2 [0, 2] ∧ Y.heap.size ≤ X) := ⟨by rw [← hZe]; exact hb6, by rw [← hXe, ← hZe]; exact hx6, by rw [← hZe]; exact hr6, by rw [← hXe]; exact hX0⟩
        rw [hXe, hZe]
        clear hXe hZe hX0 hb6 hx6 hr6
    case' oab =>
      go_simp
      have hb7 : Below Y.heap.size Y (w1.alloc (.cells #[.bool false, .slice none 0 0, .slice none 0 0, .slice none 0 0] 41)) := hb1.alloc hb1.size _
      have hn7 : (w1.alloc (.cells #[.bool false, .slice none 0 0, .slice none 0 0, .slice none 0 0] 41)).heap[w1.heap.size]? = some (.cells #[.bool false, .slice none 0 0, .slice none 0 0, .slice none 0 0] 41 (0, 0)) := World.alloc_heap_new w1 _
      have hl7 := blk_alloc hn1 (.cells #[.bool false, .slice none 0 0, .slice none 0 0, .slice none 0 0] 41)
      obtain ⟨w7, hW7⟩ : ∃ V, (w1.alloc (.cells #[.bool false, .slice none 0 0, .slice none 0 0, .slice none 0 0] 41)) = V := ⟨_, rfl⟩
      rw [hW7] at hb7 hn7 hl7 ⊢
      clear hW7
      refine hK _ _ hb7 ?_
      clear hK K
      simp only [List.setIfInBounds_toArray, List.set_cons_zero, List.set_cons_succ]
      refine wpAnyHIn_one (i := 2) (by kernel_rfl) rfl (fun K hK => ?_)
      go_simp
      refine ⟨trivial, ?_⟩
      refine (callsIn_wide.2 (vec_Ints.calls 100 (some ⟨Y0.heap.size, 0, none⟩) 2 [5, 3] ls w7 (C_lit2 hl7) (by decide) HINT.out)).mono ?_
      rintro e wi8 ⟨v_, rfl, hv, hb⟩
      obtain ⟨Ai, ci, rfl, hli, hCi⟩ := Kd.S_reads hv
      have hb8 : Below Y.heap.size Y wi8 := hb7.trans (hb.mono hb7.size)
      have hx8 := blk_below hn7 hb
      clear hv hb
      refine hK _ _ hb8 ?_
      clear hK K
      simp only [List.setIfInBounds_toArray, List.set_cons_zero, List.set_cons_succ]
      refine wpAnyHIn_one (i := 3) (by kernel_rfl) rfl (fun K hK => ?_)
      go_simp
      refine ⟨trivial, ?_⟩
      refine (callsIn_wide.2 (knap_Best.calls 10 (some ⟨w.heap.size, 0, none⟩) 2 [⟨6, 2⟩, ⟨5, 2⟩] Ai ci ls q0 q1 q2 [0, 2] 0 wi8 (Kd.C_below HC0.out hb8) (by decide) hCi hli HBEST.out)).mono ?_
      rintro e we ⟨v1, v2, v3, rfl, hv1, hv2, hv3, hb⟩
      obtain ⟨E1, ec1, rfl, -, -⟩ := Kd.R_reads hv1
      obtain ⟨E2, ec2, rfl, -, -⟩ := Kd.R_reads hv2
      obtain ⟨E3, ec3, rfl, -, -⟩ := Kd.R_reads hv3
      have hb9 : Below Y.heap.size Y we := hb8.trans (hb.mono hb8.size)
      have hr9 : Rows3 we (.slice E1 q1.length ec1) (.slice E2 q2.length ec2) (.slice E3 2 ec3) q1 q2 [0, 2] := ⟨_, _, _, _, hv1, hv2, hv3⟩
      have hx9 := blk_below hx8 hb
      clear hv1 hv2 hv3 hb
      refine hK _ _ hb9 ?_
      clear hK K
      simp only [List.setIfInBounds_toArray, List.set_cons_zero, List.set_cons_succ]
      refine wpAnyHIn_takeAt (i := 4) (v := .tuple #[.agg #[.bool q0, .slice E1 q1.length ec1, .slice E2 q2.length ec2, .slice E3 2 ec3], .int .i64 0]) (dst := 8) (by kernel_rfl) rfl rfl (by kernel_rfl) (by kernel_rfl) (by kernel_rfl) (fun _ _ _ h => h) ⟨Or.inl ⟨by rfl, fun w' hw' => ?_⟩, fun _ => rfl⟩ hb9 ?_
      · (go_simp)
      simp only [List.setIfInBounds_toArray, List.set_cons_zero, List.set_cons_succ]
      refine wpAnyHIn_takeAt (i := 5) (v := .agg #[.bool q0, .slice E1 q1.length ec1, .slice E2 q2.length ec2, .slice E3 2 ec3]) (dst := 13) (by kernel_rfl) rfl rfl (by kernel_rfl) (by kernel_rfl) (by kernel_rfl) (fun _ _ _ h => h) ⟨Or.inl ⟨by rfl, fun w' hw' => ?_⟩, fun _ => rfl⟩ hb9 ?_
      · (go_simp)
      simp only [List.setIfInBounds_toArray, List.set_cons_zero, List.set_cons_succ]
      refine wpAnyHIn_takeAt (i := 6) (v := .int .i64 0) (dst := 14) (by kernel_rfl) rfl rfl (by kernel_rfl) (by kernel_rfl) (by kernel_rfl) (fun _ _ _ h => h) ⟨Or.inl ⟨by rfl, fun w' hw' => ?_⟩, fun _ => rfl⟩ hb9 ?_
      · (go_simp)
      simp only [List.setIfInBounds_toArray, List.set_cons_zero, List.set_cons_succ]
      have hX0 : Y.heap.size ≤ w1.heap.size := hb1.size
      obtain ⟨X, hXe⟩ : ∃ X, w1.heap.size = X := ⟨_, rfl⟩
      obtain ⟨Z, hZe⟩ : ∃ Z, we = Z := ⟨_, rfl⟩
      have HZ : Aside0 (Below Y.heap.size Y Z ∧ Z.heap[X]? = some (.cells #[.bool false, .slice none 0 0, .slice none 0 0, .slice none 0 0] 41 (0, 0)) ∧ Rows3 Z (.slice E1 q1.length ec1) (.slice E2 q2.length ec2) (.slice E3 2 ec3) q1 q2 [0, 2] ∧ Y.heap.size ≤ X) := ⟨by rw [← hZe]; exact hb9, by rw [← hXe, ← hZe]; exact hx9, by rw [← hZe]; exact hr9, by rw [← hXe]; exact hX0⟩
      rw [hXe, hZe]
      clear hXe hZe hX0 hb9 hx9 hr9
  case' ob =>
    go_simp
    have hb10 : Below Y.heap.size Y (Y0.alloc (.cells #[.bool false, .slice none 0 0, .slice none 0 0, .slice none 0 0] 41)) := hS0.alloc hS0.size _
    have hn10 : (Y0.alloc (.cells #[.bool false, .slice none 0 0, .slice none 0 0, .slice none 0 0] 41)).heap[Y0.heap.size]? = some (.cells #[.bool false, .slice none 0 0, .slice none 0 0, .slice none 0 0] 41 (0, 0)) := World.alloc_heap_new Y0 _
    obtain ⟨w10, hW10⟩ : ∃ V, (Y0.alloc (.cells #[.bool false, .slice none 0 0, .slice none 0 0, .slice none 0 0] 41)) = V := ⟨_, rfl⟩
    rw [hW10] at hb10 hn10 ⊢
    clear hW10
    refine hK _ _ hb10 ?_
    clear hK K
    simp only [List.setIfInBounds_toArray, List.set_cons_zero, List.set_cons_succ]
    refine wpAnyHIn_one (i := 1) (by kernel_rfl) rfl (fun K hK => ?_)
    go_simp
    have hb11 : Below Y.heap.size Y (w10.alloc (.cells #[.int .i64 5, .int .i64 3] 3)) := hb10.alloc hb10.size _
    have hn11 : (w10.alloc (.cells #[.int .i64 5, .int .i64 3] 3)).heap[w10.heap.size]? = some (.cells #[.int .i64 5, .int .i64 3] 3 (0, 0)) := World.alloc_heap_new w10 _
    have hx11 := blk_alloc hn10 (.cells #[.int .i64 5, .int .i64 3] 3)
    obtain ⟨w11, hW11⟩ : ∃ V, (w10.alloc (.cells #[.int .i64 5, .int .i64 3] 3)) = V := ⟨_, rfl⟩
    rw [hW11] at hb11 hn11 hx11 ⊢
    clear hW11
    refine hK _ _ hb11 ?_
    clear hK K
    simp only [List.setIfInBounds_toArray, List.set_cons_zero, List.set_cons_succ]
    refine wpAnyHIn_one (i := 2) (by kernel_rfl) rfl (fun K hK => ?_)
    go_simp
    refine ⟨trivial, ?_⟩
    refine (callsIn_wide.2 (vec_Ints.calls 100 (some ⟨w10.heap.size, 0, none⟩) 2 [5, 3] ls w11 (C_lit2 hn11) (by decide) HINT.out)).mono ?_
    rintro e wi12 ⟨v_, rfl, hv, hb⟩
    obtain ⟨Ai, ci, rfl, hli, hCi⟩ := Kd.S_reads hv
    have hb12 : Below Y.heap.size Y wi12 := hb11.trans (hb.mono hb11.size)
    have hx12 := blk_below hx11 hb
    clear hv hb
    refine hK _ _ hb12 ?_
    clear hK K
    simp only [List.setIfInBounds_toArray, List.set_cons_zero, List.set_cons_succ]
    refine wpAnyHIn_one (i := 3) (by kernel_rfl) rfl (fun K hK => ?_)
    go_simp
    refine ⟨trivial, ?_⟩
    refine (callsIn_wide.2 (knap_Best.calls 10 (some ⟨w.heap.size, 0, none⟩) 2 [⟨6, 2⟩, ⟨5, 2⟩] Ai ci ls q0 q1 q2 [0, 2] 0 wi12 (Kd.C_below HC0.out hb12) (by decide) hCi hli HBEST.out)).mono ?_
    rintro e we ⟨v1, v2, v3, rfl, hv1, hv2, hv3, hb⟩
    obtain ⟨E1, ec1, rfl, -, -⟩ := Kd.R_reads hv1
    obtain ⟨E2, ec2, rfl, -, -⟩ := Kd.R_reads hv2
    obtain ⟨E3, ec3, rfl, -, -⟩ := Kd.R_reads hv3
    have hb13 : Below Y.heap.size Y we := hb12.trans (hb.mono hb12.size)
    have hr13 : Rows3 we (.slice E1 q1.length ec1) (.slice E2 q2.length ec2) (.slice E3 2 ec3) q1 q2 [0, 2] := ⟨_, _, _, _, hv1, hv2, hv3⟩
    have hx13 := blk_below hx12 hb
    clear hv1 hv2 hv3 hb
    refine hK _ _ hb13 ?_
    clear hK K
    simp only [List.setIfInBounds_toArray, List.set_cons_zero, List.set_cons_succ]
    refine wpAnyHIn_takeAt (i := 4) (v := .tuple #[.agg #[.bool q0, .slice E1 q1.length ec1, .slice E2 q2.length ec2, .slice E3 2 ec3], .int .i64 0]) (dst := 8) (by kernel_rfl) rfl rfl (by kernel_rfl) (by kernel_rfl) (by kernel_rfl) (fun _ _ _ h => h) ⟨Or.inl ⟨by rfl, fun w' hw' => ?_⟩, fun _ => rfl⟩ hb13 ?_
    · (go_simp)
    simp only [List.setIfInBounds_toArray, List.set_cons_zero, List.set_cons_succ]
    refine wpAnyHIn_takeAt (i := 5) (v := .agg #[.bool q0, .slice E1 q1.length ec1, .slice E2 q2.length ec2, .slice E3 2 ec3]) (dst := 13) (by kernel_rfl) rfl rfl (by kernel_rfl) (by kernel_rfl) (by kernel_rfl) (fun _ _ _ h => h) ⟨Or.inl ⟨by rfl, fun w' hw' => ?_⟩, fun _ => rfl⟩ hb13 ?_
    · (go_simp)
    simp only [List.setIfInBounds_toArray, List.set_cons_zero, List.set_cons_succ]
    refine wpAnyHIn_takeAt (i := 6) (v := .int .i64 0) (dst := 14) (by kernel_rfl) rfl rfl (by kernel_rfl) (by kernel_rfl) (by kernel_rfl) (fun _ _ _ h => h) ⟨Or.inl ⟨by rfl, fun w' hw' => ?_⟩, fun _ => rfl⟩ hb13 ?_
    · (go_simp)
    simp only [List.setIfInBounds_toArray, List.set_cons_zero, List.set_cons_succ]
    have hX0 : Y.heap.size ≤ Y0.heap.size := hS0.size
    obtain ⟨X, hXe⟩ : ∃ X, Y0.heap.size = X := ⟨_, rfl⟩
    obtain ⟨Z, hZe⟩ : ∃ Z, we = Z := ⟨_, rfl⟩
    have HZ : Aside0 (Below Y.heap.size Y Z ∧ Z.heap[X]? = some (.cells #[.bool false, .slice none 0 0, .slice none 0 0, .slice none 0 0] 41 (0, 0)) ∧ Rows3 Z (.slice E1 q1.length ec1) (.slice E2 q2.length ec2) (.slice E3 2 ec3) q1 q2 [0, 2] ∧ Y.heap.size ≤ X) := ⟨by rw [← hZe]; exact hb13, by rw [← hXe, ← hZe]; exact hx13, by rw [← hZe]; exact hr13, by rw [← hXe]; exact hX0⟩
    rw [hXe, hZe]
    clear hXe hZe hX0 hb13 hx13 hr13
  all_goals
    obtain ⟨g0, g1, g2, g3, f0, f1, f2, f3⟩ := box4_cells HZ.out.2.1
    refine wpAnyHIn_one (i := 8) (by kernel_rfl) rfl (fun K hK => ?_)
    go_simp
    have hSf : Below Y.heap.size Y (set4 Z X (.bool q0) (.slice E1 q1.length ec1) (.slice E2 q2.length ec2) (.slice E3 2 ec3)) := set4_below HZ.out.2.2.2 HZ.out.1 _ _ _ _
    have hXf := set4_heap HZ.out.2.1 (.bool q0) (.slice E1 q1.length ec1) (.slice E2 q2.length ec2) (.slice E3 2 ec3)
    have hRf := Rows3.set4 HZ.out.2.2.1 HZ.out.2.1 (.bool q0) (.slice E1 q1.length ec1) (.slice E2 q2.length ec2) (.slice E3 2 ec3)
    obtain ⟨F, hF⟩ : ∃ F, set4 Z X (.bool q0) (.slice E1 q1.length ec1) (.slice E2 q2.length ec2) (.slice E3 2 ec3) = F := ⟨_, rfl⟩
    rw [hF] at hSf hXf hRf
    unfold set4 at hF
    rw [hF]
    clear hF g0 g1 g2 g3 f0 f1 f2 f3
    refine hK _ _ hSf ?_
    clear hK K
    simp only [List.setIfInBounds_toArray, List.set_cons_zero, List.set_cons_succ]
    refine wpAnyHIn_takeAt (i := 9) (v := .int .i64 0) (dst := 3) (by kernel_rfl) rfl rfl (by kernel_rfl) (by kernel_rfl) (by kernel_rfl) (fun _ _ _ h => h) ⟨Or.inl ⟨by rfl, fun w' hw' => ?_⟩, fun _ => rfl⟩ hSf ?_
    · (go_simp)
    simp only [List.setIfInBounds_toArray, List.set_cons_zero, List.set_cons_succ]
    refine wpAnyHIn_done (by kernel_rfl) ?_
    obtain ⟨⟨-, hec1, hC1⟩, ⟨-, hec2, hC2⟩, ⟨-, hec3, hC3⟩⟩ := Rows3.reads hRf
    obtain ⟨ad, rfl, hcl⟩ := Kd.at_int hC3 1 (by decide) (by decide)
    replace hcl : F.cell? ⟨ad.block, ad.off + 1, none⟩ = some (.int .i64 2) := hcl
    have HF := Aside0.mk (AwF.mk' hSf hXf hC1 hC2 hC3 hcl)
    have HE := Aside0.mk (And.intro hec1 (And.intro hec2 hec3))
    have hsz : w.heap.size ≤ Y.heap.size := HYB.out.size
    clear hSf hXf hRf hC1 hC2 hC3 hcl hec1 hec2 hec3 hS0 HZ
    obtain ⟨g0, g1, g2, g3⟩ := HF.out.cells
    have gc := HF.out.2.2.2.2.2
    have b0 := pw_cell_below HF.out.1 s0
    have b1 := pw_cell_below HF.out.1 s1
    gi_wp2_with (first
      | (refine ⟨trivial, ?_⟩; gi_at_call 16; refine (callsIn_wide.2 (rat_Text.calls 100 q0 E1 ec1 q1 E2 ec2 q2 ⟨#[54]⟩ F HF.out.2.2.1 HE.out.1 HF.out.2.2.2.1 HE.out.2.1 HTEXT.out)).mono ?_; rintro e wa ⟨rfl, hba⟩; have HA := Aside0.mk (HF.out.below hba); clear g0 g1 g2 g3 gc b0 b1 hba; obtain ⟨g0, g1, g2, g3⟩ := HA.out.cells; have gc := HA.out.2.2.2.2.2; have b0 := pw_cell_below HA.out.1 s0; have b1 := pw_cell_below HA.out.1 s1)
      | (refine ⟨trivial, ?_⟩; gi_at_call 14; refine (callsIn_wide.2 (knap_Fits.calls 100 10 (some ⟨w.heap.size, 0, none⟩) 2 [⟨6, 2⟩, ⟨5, 2⟩] (some ad) ec3 [0, 2] true wa (Kd.C_below HC0.out HA.out.1) (by decide) HA.out.2.2.2.2.1 HE.out.2.2 HFITS.out)).mono ?_; rintro e wb ⟨rfl, hbb⟩; have HB := Aside0.mk (HA.out.below hbb); clear g0 g1 g2 g3 gc b0 b1 hbb; obtain ⟨g0, g1, g2, g3⟩ := HB.out.cells; have gc := HB.out.2.2.2.2.2; have b0 := pw_cell_below HB.out.1 s0; have b1 := pw_cell_below HB.out.1 s1)
      | (refine ⟨trivial, ?_⟩; gi_at_call 17; refine (callsIn_wide.2 (knap_Use.calls 100 10 (some ⟨w.heap.size, 0, none⟩) 2 [⟨6, 2⟩, ⟨5, 2⟩] (some ad) ec3 [0, 2] 10 wb (Kd.C_below HC0.out HB.out.1) (by decide) HB.out.2.2.2.2.1 HE.out.2.2 HUSE.out)).mono ?_; rintro e wc ⟨rfl, hbc⟩; have HD := Aside0.mk (HB.out.below hbc); clear g0 g1 g2 g3 gc b0 b1 hbc))
    exact ⟨.bool true, by first | (go_simp; done) | kernel_rfl, rfl, HYB.out.trans (HD.out.1.mono hsz)⟩
end

/-! ### offcutlaw16_KnapMany: function 4 -/
mutual
def offcutlaw16_KnapMany.j0 : Nat → Int → Int → Bool → Option (Bool)
  | 0, _, _, _ => none
  | k + 1, x0, x1, x20 => if x20 = true then ((offcutlaw16_awake.f k).bind fun t339 => (some t339)) else ((vec_Ints.f k (([1] : List Int))).bind fun t346 => ((knap_Best.f x0 (([(⟨1, x1⟩ : S46)] : List (S46))) t346).bind fun bt349 => (if x0 > 512 then (offcutlaw16_KnapMany.j1 k x0 x1 bt349.2.2.2.2 true bt349.1 bt349.2.1 bt349.2.2.1 bt349.2.2.2.1) else (offcutlaw16_KnapMany.j1 k x0 x1 bt349.2.2.2.2 (decide (x1 > 64)) bt349.1 bt349.2.1 bt349.2.2.1 bt349.2.2.2.1))))
def offcutlaw16_KnapMany.j1 : Nat → Int → Int → Int → Bool → Bool → List Int → List Int → List Int → Option (Bool)
  | 0, _, _, _, _, _, _, _, _ => none
  | k + 1, x0, x1, x6, x38, x361000, x361001, x361002, x361003 => if x38 = true then (if (x361003.length : Int) = 0 then (if x6 = 4 then ((offcutlaw16_awake.f k).bind fun t361 => (some t361)) else (some false)) else (some false)) else (if x6 = 0 then (if (x361003.length : Int) = 1 then (if 0 < (x361003.length : Int) then (if (rd x361003 0) = (mn x0 x1) then ((offcutlaw16_awake.f k).bind fun t363 => (some t363)) else (some false)) else (none)) else (some false)) else (some false))
end
def offcutlaw16_KnapMany.f (k : Nat) (a0 : Int) (a1 : Int) : Option (Bool) := if a0 < 1 then (offcutlaw16_KnapMany.j0 k a0 a1 true) else (if a0 > 1048576 then (offcutlaw16_KnapMany.j0 k a0 a1 true) else (if a1 < 0 then (offcutlaw16_KnapMany.j0 k a0 a1 true) else (offcutlaw16_KnapMany.j0 k a0 a1 (decide (a1 > 1024)))))
theorem offcutlaw16_KnapMany.mono_l : ∀ k, (∀ y0 y1 y2, LeO (offcutlaw16_KnapMany.j0 k y0 y1 y2) (offcutlaw16_KnapMany.j0 (k + 1) y0 y1 y2)) ∧ (∀ y0 y1 y2 y3 y4 y5 y6 y7, LeO (offcutlaw16_KnapMany.j1 k y0 y1 y2 y3 y4 y5 y6 y7) (offcutlaw16_KnapMany.j1 (k + 1) y0 y1 y2 y3 y4 y5 y6 y7))
  | 0 => ⟨fun _ _ _ r h => by simp [offcutlaw16_KnapMany.j0] at h, fun _ _ _ _ _ _ _ _ r h => by simp [offcutlaw16_KnapMany.j1] at h⟩
  | k + 1 => by
    obtain ⟨ih0, ih1⟩ := offcutlaw16_KnapMany.mono_l k
    refine ⟨?_, ?_⟩
    · intro y0 y1 y2
      unfold offcutlaw16_KnapMany.j0
      repeat' first
      | (with_reducible exact ih0 _ _ _)
      | (with_reducible exact ih1 _ _ _ _ _ _ _ _)
      | (with_reducible exact offcutlaw16_awake.mono _)
      | (with_reducible exact vec_Ints.mono _ _)
      | (with_reducible exact LeO.refl _)
      | (with_reducible exact LeO.none _)
      | (with_reducible refine LeO.ite ?_ ?_)
      | (with_reducible refine LeO.bind ?_ (fun _ => ?_))
      | exact ih0 _ _ _
      | exact ih1 _ _ _ _ _ _ _ _
      | exact offcutlaw16_awake.mono _
      | exact vec_Ints.mono _ _
      | exact LeO.none _
      | refine LeO.ite ?_ ?_
      | refine LeO.bind ?_ (fun _ => ?_)
    · intro y0 y1 y2 y3 y4 y5 y6 y7
      unfold offcutlaw16_KnapMany.j1
      repeat' first
      | (with_reducible exact ih0 _ _ _)
      | (with_reducible exact ih1 _ _ _ _ _ _ _ _)
      | (with_reducible exact offcutlaw16_awake.mono _)
      | (with_reducible exact vec_Ints.mono _ _)
      | (with_reducible exact LeO.refl _)
      | (with_reducible exact LeO.none _)
      | (with_reducible refine LeO.ite ?_ ?_)
      | (with_reducible refine LeO.bind ?_ (fun _ => ?_))
      | exact ih0 _ _ _
      | exact ih1 _ _ _ _ _ _ _ _
      | exact offcutlaw16_awake.mono _
      | exact vec_Ints.mono _ _
      | exact LeO.none _
      | refine LeO.ite ?_ ?_
      | refine LeO.bind ?_ (fun _ => ?_)
theorem offcutlaw16_KnapMany.mono : ∀ a0 a1 k, LeO (offcutlaw16_KnapMany.f k a0 a1) (offcutlaw16_KnapMany.f (k + 1) a0 a1) := by
  intro a0 a1 k
  obtain ⟨ih0, ih1⟩ := offcutlaw16_KnapMany.mono_l k
  unfold offcutlaw16_KnapMany.f
  repeat' first
      | (with_reducible exact ih0 _ _ _)
      | (with_reducible exact ih1 _ _ _ _ _ _ _ _)
      | (with_reducible exact offcutlaw16_awake.mono _)
      | (with_reducible exact vec_Ints.mono _ _)
      | (with_reducible exact LeO.refl _)
      | (with_reducible exact LeO.none _)
      | (with_reducible refine LeO.ite ?_ ?_)
      | (with_reducible refine LeO.bind ?_ (fun _ => ?_))
      | exact ih0 _ _ _
      | exact ih1 _ _ _ _ _ _ _ _
      | exact offcutlaw16_awake.mono _
      | exact vec_Ints.mono _ _
      | exact LeO.none _
      | refine LeO.ite ?_ ?_
      | refine LeO.bind ?_ (fun _ => ?_)
set_option maxHeartbeats 8000000 in
set_option maxRecDepth 100000 in
theorem offcutlaw16_KnapMany.calls (k : Nat) (a0 : Int) (a1 : Int) (r : Bool) (w : World) (h : offcutlaw16_KnapMany.f k a0 a1 = some r) :
    Calls Try.prog 4 #[.int .i64 a0, .int .i64 a1] w fun e w' => e = .returned (.bool r) ∧ Below w.heap.size w w' := by
  have hu46 := Try.underlying46
  have hu24 := Try.underlying24
  have hu41 := Try.underlying41
  have HB := Aside0.mk (Below.refl w.heap.size w)
  have H : (if a0 < 1 then (offcutlaw16_KnapMany.j0 k a0 a1 true) else (if a0 > 1048576 then (offcutlaw16_KnapMany.j0 k a0 a1 true) else (if a1 < 0 then (offcutlaw16_KnapMany.j0 k a0 a1 true) else (offcutlaw16_KnapMany.j0 k a0 a1 (decide (a1 > 1024)))))) = some r := h
  clear h
  have HC3 := Aside0.mk H
  clear H
  go_enter Try.func4, Try.ntmps4
  go_upto_region 1 with (fail)
  go_cut [20] (fun v20 wc => ∃ (kq : Nat) (x20_2 : Bool), v20 = .bool x20_2 ∧ Aside0 (offcutlaw16_KnapMany.j0 kq a0 a1 x20_2 = some r) ∧ Aside0 (kq ≤ k) ∧ Aside0 (Below w.heap.size w wc))
  case first =>
    have H := HC3.out
    clear HC3
    by_cases c4 : a0 < 1
    · rw [if_pos c4] at H
      have c4b0 : decide (a0 < 1) = true := decide_eq_true c4
      clear c4
      (first | rw [c4b0] | (simp only [i64_w, i32_w]; rw [c4b0]) | skip)
      have H' := Aside0.mk H
      clear H
      go_wp2
      go_meet
      case rel => exact ⟨_, (true), (by first | rfl | (simp; done) | (simp [*]; done)), H', ⟨by first | omega | exact Nat.le_refl _⟩, ⟨by repeat (first | (with_reducible first | exact HB.out | apply below_alloc | apply pw_below_drewN | apply below_drew1) | exact HB.out)⟩⟩
    · rw [if_neg c4] at H
      have c4b0 : decide (a0 < 1) = false := decide_eq_false c4
      clear c4
      (first | rw [c4b0] | (simp only [i64_w, i32_w]; rw [c4b0]) | skip)
      by_cases c5 : a0 > 1048576
      · rw [if_pos c5] at H
        have c5b0 : decide (1048576 < a0) = true := decide_eq_true c5
        clear c5
        have H' := Aside0.mk H
        clear H
        go_wp2
        go_meet
        case rel => exact ⟨_, (true), (by first | rfl | (simp; done) | (simp [*]; done)), H', ⟨by first | omega | exact Nat.le_refl _⟩, ⟨by repeat (first | (with_reducible first | exact HB.out | apply below_alloc | apply pw_below_drewN | apply below_drew1) | exact HB.out)⟩⟩
      · rw [if_neg c5] at H
        have c5b0 : decide (1048576 < a0) = false := decide_eq_false c5
        clear c5
        by_cases c6 : a1 < 0
        · rw [if_pos c6] at H
          have c6b0 : decide (a1 < 0) = true := decide_eq_true c6
          clear c6
          have H' := Aside0.mk H
          clear H
          go_wp2
          go_meet
          case rel => exact ⟨_, (true), (by first | rfl | (simp; done) | (simp [*]; done)), H', ⟨by first | omega | exact Nat.le_refl _⟩, ⟨by repeat (first | (with_reducible first | exact HB.out | apply below_alloc | apply pw_below_drewN | apply below_drew1) | exact HB.out)⟩⟩
        · rw [if_neg c6] at H
          have c6b0 : decide (a1 < 0) = false := decide_eq_false c6
          clear c6
          have H' := Aside0.mk H
          clear H
          go_wp2
          go_meet
          case rel => exact ⟨_, (decide (a1 > 1024)), (by first | rfl | (simp; done) | (simp [*]; done)), H', ⟨by first | omega | exact Nat.le_refl _⟩, ⟨by repeat (first | (with_reducible first | exact HB.out | apply below_alloc | apply pw_below_drewN | apply below_drew1) | exact HB.out)⟩⟩
  case rest =>
    clear HC3
    try clear p2
    try clear c4
    try clear c4b0
    try clear c5
    try clear c5b0
    try clear c6
    try clear c6b0
    obtain ⟨kq, x20_2, rfl, HA, HJ2, HB⟩ := hcut
    cases kq with
    | zero => exact absurd HA.out (by simp [offcutlaw16_KnapMany.j0])
    | succ kj2 =>
      have H := HA.out
      clear HA
      simp only [offcutlaw16_KnapMany.j0] at H
      by_cases c7 : x20_2 = true
      · subst c7
        have H1 : ((offcutlaw16_awake.f kj2).bind fun t339 => (some t339)) = some r := by rw [if_pos rfl] at H; exact H
        clear H
        have H := H1
        clear H1
        replace H := Option.bind_eq_some_iff.mp H
        obtain ⟨t339, A80, H⟩ := H
        replace H : (some t339) = some r := H
        have A8 := Aside0.mk A80
        clear A80
        obtain rfl := Option.some.inj H
        go_wp2_with (first | ((with_reducible refine gate_callee (f := 10) rfl ?_); refine goesL_ (some 21) rfl rfl Try.func10 (by kernel_rfl) rfl #[] rfl (by (try simp only [List.map_toArray, List.map_cons, List.map_nil]); first | done | rfl | (simp only [List.length_drop, List.length_take]; rfl)) ?_; (with_reducible refine (offcutlaw16_awake.calls kj2  t339 _ A8.out).mono ?_); rintro e w9 ⟨rfl, hb⟩; refine ⟨_, rfl, ?_⟩; have n0_ := Aside0.mk (below_step (by repeat (first | (with_reducible first | exact HB.out | apply below_alloc | apply pw_below_drewN | apply below_drew1) | exact HB.out)) hb); clear HB; have HB := n0_; clear n0_; (try clear hb); (try clear hb2); (try clear hk); (try clear hi)))
        go_ret
        exact ⟨by first | rfl | (simp [errW_none, errW_some] <;> rfl) | (simp [*, errW_none, errW_some] <;> rfl), by repeat (first | (with_reducible first | exact HB.out | apply below_alloc | apply pw_below_drewN | apply below_drew1) | exact HB.out)⟩
      · replace c7 := Bool.eq_false_iff.mpr c7
        subst c7
        have H1 : ((vec_Ints.f kj2 (([1] : List Int))).bind fun t346 => ((knap_Best.f a0 (([(⟨1, a1⟩ : S46)] : List (S46))) t346).bind fun bt349 => (if a0 > 512 then (offcutlaw16_KnapMany.j1 kj2 a0 a1 bt349.2.2.2.2 true bt349.1 bt349.2.1 bt349.2.2.1 bt349.2.2.2.1) else (offcutlaw16_KnapMany.j1 kj2 a0 a1 bt349.2.2.2.2 (decide (a1 > 64)) bt349.1 bt349.2.1 bt349.2.2.1 bt349.2.2.2.1)))) = some r := by rw [if_neg (show ¬ (false = true) by decide)] at H; exact H
        clear H
        have H := H1
        clear H1
        obtain ⟨y340, hy340⟩ : ∃ y_ : List (S46), y_ = (([(⟨1, a1⟩ : S46)] : List (S46))) := ⟨_, rfl⟩
        replace H : ((vec_Ints.f kj2 (([1] : List Int))).bind fun t346 => ((knap_Best.f a0 y340 t346).bind fun bt349 => (if a0 > 512 then (offcutlaw16_KnapMany.j1 kj2 a0 a1 bt349.2.2.2.2 true bt349.1 bt349.2.1 bt349.2.2.1 bt349.2.2.2.1) else (offcutlaw16_KnapMany.j1 kj2 a0 a1 bt349.2.2.2.2 (decide (a1 > 64)) bt349.1 bt349.2.1 bt349.2.2.1 bt349.2.2.2.1)))) = some r := by first | (rw [hy340]; with_reducible exact H) | (have H2_ := (Option.bind_some _ _).symm.trans H; rw [hy340]; with_reducible exact H2_) | (have H2_ := (Option.bind_some _ _).symm.trans H; with_reducible exact H2_) | with_reducible exact H | (rw [hy340]; exact H) | exact H
        have Ny340 := Aside0.mk hy340
        clear hy340
        obtain ⟨y343, hy343⟩ : ∃ y_ : List Int, y_ = (([1] : List Int)) := ⟨_, rfl⟩
        replace H : ((vec_Ints.f kj2 y343).bind fun t346 => ((knap_Best.f a0 y340 t346).bind fun bt349 => (if a0 > 512 then (offcutlaw16_KnapMany.j1 kj2 a0 a1 bt349.2.2.2.2 true bt349.1 bt349.2.1 bt349.2.2.1 bt349.2.2.2.1) else (offcutlaw16_KnapMany.j1 kj2 a0 a1 bt349.2.2.2.2 (decide (a1 > 64)) bt349.1 bt349.2.1 bt349.2.2.1 bt349.2.2.2.1)))) = some r := by first | (rw [hy343]; with_reducible exact H) | (have H2_ := (Option.bind_some _ _).symm.trans H; rw [hy343]; with_reducible exact H2_) | (have H2_ := (Option.bind_some _ _).symm.trans H; with_reducible exact H2_) | with_reducible exact H | (rw [hy343]; exact H) | exact H
        have Ny343 := Aside0.mk hy343
        clear hy343
        replace H := Option.bind_eq_some_iff.mp H
        obtain ⟨t346, A100, H⟩ := H
        replace H : ((knap_Best.f a0 y340 t346).bind fun bt349 => (if a0 > 512 then (offcutlaw16_KnapMany.j1 kj2 a0 a1 bt349.2.2.2.2 true bt349.1 bt349.2.1 bt349.2.2.1 bt349.2.2.2.1) else (offcutlaw16_KnapMany.j1 kj2 a0 a1 bt349.2.2.2.2 (decide (a1 > 64)) bt349.1 bt349.2.1 bt349.2.2.1 bt349.2.2.2.1))) = some r := H
        have A10 := Aside0.mk A100
        clear A100
        replace H := Option.bind_eq_some_iff.mp H
        obtain ⟨⟨t349, t350, t353, t356, t359⟩, A110, H⟩ := H
        replace H : (if a0 > 512 then (offcutlaw16_KnapMany.j1 kj2 a0 a1 t359 true t349 t350 t353 t356) else (offcutlaw16_KnapMany.j1 kj2 a0 a1 t359 (decide (a1 > 64)) t349 t350 t353 t356)) = some r := H
        have A11 := Aside0.mk A110
        clear A110
        have HC12 := Aside0.mk H
        clear H
        go_upto_region 4 with (first | ((with_reducible refine gate_dst (N := 26) rfl ?_); (try (refine gate_guard (by rfl) ?_; dsimp only)); refine Kd.R_lit k46 _ 46 ?hg (N := 26) ?hd (xs := ([(⟨1, a1⟩ : S46)] : List (S46))) (inner := [.int .i64 1, .int .i64 a1]) (ok := fun _ => True) (okp := fun _ => True) ?hr ?hp (fun _ hk => hk) trivial (Below.refl _ _) (Nat.le_refl _) (by simp) ?_; (case hd => rfl); (case hg => rfl); (case hr => first | (go_simp; done) | (go_simp; rfl)); (case hp => exact (Reps.c2 (show Kd.M k46 _ _ _ (⟨1, a1⟩ : S46) [.int .i64 1, .int .i64 a1] from (k46_mkM _ _ _ (⟨1, a1⟩ : S46) )) (Reps.none _ _))); intro v341 w13 ho14 hb hg_ hnew_; clear hg_ hnew_; (first | rw [← Ny340.out] at ho14 | (simp only [Int.reduceToNat] at ho14; rw [← Ny340.out] at ho14)); have n0_ := Aside0.mk (Kd.R_lower ho14 (below_size (by repeat (first | (with_reducible first | exact HB.out | apply below_alloc | apply pw_below_drewN | apply below_drew1) | exact HB.out)))); have n1_ := Aside0.mk (below_step (by repeat (first | (with_reducible first | exact HB.out | apply below_alloc | apply pw_below_drewN | apply below_drew1) | exact HB.out)) hb); clear HB; have HO342 := n0_; have HB := n1_; clear n0_ n1_; clear hb ho14; obtain ⟨Ao15, co15, eo15⟩ := Kd.R_slice HO342.out; subst eo15) | ((with_reducible refine gate_dst (N := 28) rfl ?_); (try (refine gate_guard (by rfl) ?_; dsimp only)); refine Kd.R_lit (Kd.int .i64) _ 3 ?hg (N := 28) ?hd (xs := ([1] : List Int)) (inner := [.int .i64 1]) (ok := fun _ => True) (okp := fun _ => True) ?hr ?hp (fun _ hk => hk) trivial (Below.refl _ _) (Nat.le_refl _) (by simp) ?_; (case hd => rfl); (case hg => rfl); (case hr => first | (go_simp; done) | (go_simp; rfl)); (case hp => exact (Reps.one (show Kd.M (Kd.int .i64) _ _ _ 1 [.int .i64 1] from rfl) (Reps.none _ _))); intro v344 w16 ho17 hb hg_ hnew_; clear hg_ hnew_; (first | rw [← Ny343.out] at ho17 | (simp only [Int.reduceToNat] at ho17; rw [← Ny343.out] at ho17)); have n0_ := Aside0.mk (Kd.R_below (by (with_reducible repeat (first | apply Kd.R_alloc | apply Kd.R_drewN | apply Kd.R_drew)); exact HO342.out) hb); have n1_ := Aside0.mk (Kd.R_lower ho17 (below_size (by repeat (first | (with_reducible first | exact HB.out | apply below_alloc | apply pw_below_drewN | apply below_drew1) | exact HB.out)))); have n2_ := Aside0.mk (below_step (by repeat (first | (with_reducible first | exact HB.out | apply below_alloc | apply pw_below_drewN | apply below_drew1) | exact HB.out)) hb); clear HO342; clear HB; have HO342 := n0_; have HO345 := n1_; have HB := n2_; clear n0_ n1_ n2_; clear hb ho17; obtain ⟨Ao18, co18, eo18⟩ := Kd.R_slice HO345.out; subst eo18) | ((with_reducible refine gate_callee (f := 13) rfl ?_); refine goesL_ (some 29) rfl rfl Try.func13 (by kernel_rfl) rfl #[.slice Ao18 y343.length co18] rfl (by (try simp only [List.map_toArray, List.map_cons, List.map_nil]); first | done | rfl | (simp only [List.length_drop, List.length_take]; rfl)) ?_; (with_reducible refine (vec_Ints.calls kj2 _ _ y343 t346 _ ?side1 ?side2 A10.out).mono ?_); (case side1 => repeat (first | exact (Kd.R_reads' HO345.out).2.2 | (with_reducible refine Kd.C_alloc ?_ _) | (with_reducible refine Kd.C_drewN ?_ _) | (with_reducible refine Kd.C_drew ?_))); (case side2 => exact (Kd.R_reads' HO345.out).2.1); rintro e w19 ⟨v347, rfl, ho0, hb⟩; refine ⟨_, rfl, ?_⟩; have n0_ := Aside0.mk (Kd.R_below (by (with_reducible repeat (first | apply Kd.R_alloc | apply Kd.R_drewN | apply Kd.R_drew)); exact HO342.out) hb); have n1_ := Aside0.mk (Kd.R_below (by (with_reducible repeat (first | apply Kd.R_alloc | apply Kd.R_drewN | apply Kd.R_drew)); exact HO345.out) hb); have n2_ := Aside0.mk (Kd.S_lower ho0 (below_size (by repeat (first | (with_reducible first | exact HB.out | apply below_alloc | apply pw_below_drewN | apply below_drew1) | exact HB.out)))); have n3_ := Aside0.mk (below_step (by repeat (first | (with_reducible first | exact HB.out | apply below_alloc | apply pw_below_drewN | apply below_drew1) | exact HB.out)) hb); clear HO342; clear HO345; clear HB; have HO342 := n0_; have HO345 := n1_; have HO348 := n2_; have HB := n3_; clear n0_ n1_ n2_ n3_; (try clear hb); (try clear hb2); (try clear hk); (try clear hi); (try clear ho0); obtain ⟨Ao20, co20, eo20⟩ := Kd.S_slice HO348.out; subst eo20) | ((with_reducible refine gate_callee (f := 11) rfl ?_); refine goesL_ (some 30) rfl rfl Try.func11 (by kernel_rfl) rfl #[.agg #[.int .i64 a0, .slice Ao15 y340.length co15], .slice Ao20 t346.length co20] rfl (by (try simp only [List.map_toArray, List.map_cons, List.map_nil]); first | done | rfl | (simp only [List.length_drop, List.length_take]; rfl)) ?_; (with_reducible refine (knap_Best.calls a0 _ _ y340 _ _ t346 t349 t350 t353 t356 t359 _ ?side1 ?side2 ?side3 ?side4 A11.out).mono ?_); (case side1 => repeat (first | exact (Kd.R_reads' HO342.out).2.2 | (with_reducible refine Kd.C_alloc ?_ _) | (with_reducible refine Kd.C_drewN ?_ _) | (with_reducible refine Kd.C_drew ?_))); (case side2 => exact (Kd.R_reads' HO342.out).2.1); (case side3 => repeat (first | exact (Kd.S_reads' HO348.out).2.2 | (with_reducible refine Kd.C_alloc ?_ _) | (with_reducible refine Kd.C_drewN ?_ _) | (with_reducible refine Kd.C_drew ?_))); (case side4 => exact (Kd.S_reads' HO348.out).2.1); rintro e w21 ⟨v351, v354, v357, rfl, ho0, ho1, ho2, hb⟩; refine ⟨_, rfl, ?_⟩; have n0_ := Aside0.mk (Kd.R_below (by (with_reducible repeat (first | apply Kd.R_alloc | apply Kd.R_drewN | apply Kd.R_drew)); exact HO342.out) hb); have n1_ := Aside0.mk (Kd.R_elder' (by (with_reducible repeat (first | apply Kd.R_alloc | apply Kd.R_drewN | apply Kd.R_drew)); exact HO345.out) (Kd.R_base ho2) hb); have n2_ := Aside0.mk (Kd.S_mono (Kd.S_told (Kd.S_told (Kd.S_old (by (with_reducible repeat (first | apply Kd.S_alloc | apply Kd.S_drewN | apply Kd.S_drew)); exact HO348.out) hb) (Kd.R_base ho0)) (Kd.R_base ho1)) (fun _ h_ => h_.1)); have n3_ := Aside0.mk (Kd.R_lower ho0 (below_size (by repeat (first | (with_reducible first | exact HB.out | apply below_alloc | apply pw_below_drewN | apply below_drew1) | exact HB.out)))); have n4_ := Aside0.mk (Kd.R_lower ho1 (below_size (by repeat (first | (with_reducible first | exact HB.out | apply below_alloc | apply pw_below_drewN | apply below_drew1) | exact HB.out)))); have n5_ := Aside0.mk (Kd.R_lower (Kd.R_new' ho2 (Kd.R_lt (by (with_reducible repeat (first | apply Kd.R_alloc | apply Kd.R_drewN | apply Kd.R_drew)); exact HO345.out))) (below_size (by repeat (first | (with_reducible first | exact HB.out | apply below_alloc | apply pw_below_drewN | apply below_drew1) | exact HB.out)))); have n6_ := Aside0.mk (below_step (by repeat (first | (with_reducible first | exact HB.out | apply below_alloc | apply pw_below_drewN | apply below_drew1) | exact HB.out)) hb); clear HO342; clear HO345; clear HO348; clear HB; have HO342 := n0_; have HO345 := n1_; have HO348 := n2_; have HO352 := n3_; have HO355 := n4_; have HO358 := n5_; have HB := n6_; clear n0_ n1_ n2_ n3_ n4_ n5_ n6_; (try clear hb); (try clear hb2); (try clear hk); (try clear hi); (try clear ho0); (try clear ho1); (try clear ho2)) | ((with_reducible refine gate_dst (N := 5) rfl ?_); (try (refine gate_guard (by rfl) ?_; dsimp only)); refine box_event ?hg (N := 5) ?hd (cs := #[.bool false, .slice none 0 0, .slice none 0 0, .slice none 0 0]) (t := 41) ?hr ?_; (case hd => rfl); (case hg => rfl); (case hr => first | (go_simp; done) | (go_simp; rfl)); intro gb360 hg w22 hbox hb; have n0_ := Aside0.mk (Kd.R_below (by (with_reducible repeat (first | apply Kd.R_alloc | apply Kd.R_drewN | apply Kd.R_drew)); exact HO342.out) hb); have n1_ := Aside0.mk (Kd.R_below (by (with_reducible repeat (first | apply Kd.R_alloc | apply Kd.R_drewN | apply Kd.R_drew)); exact HO345.out) hb); have n2_ := Aside0.mk (Kd.S_below (by (with_reducible repeat (first | apply Kd.S_alloc | apply Kd.S_drewN | apply Kd.S_drew)); exact HO348.out) hb); have n3_ := Aside0.mk (Kd.R_below (by (with_reducible repeat (first | apply Kd.R_alloc | apply Kd.R_drewN | apply Kd.R_drew)); exact HO352.out) hb); have n4_ := Aside0.mk (Kd.R_below (by (with_reducible repeat (first | apply Kd.R_alloc | apply Kd.R_drewN | apply Kd.R_drew)); exact HO355.out) hb); have n5_ := Aside0.mk (Kd.R_below (by (with_reducible repeat (first | apply Kd.R_alloc | apply Kd.R_drewN | apply Kd.R_drew)); exact HO358.out) hb); have n6_ := Aside0.mk (below_step (by repeat (first | (with_reducible first | exact HB.out | apply below_alloc | apply pw_below_drewN | apply below_drew1) | exact HB.out)) hb); have n7_ := Aside0.mk (hbox); have n8_ := Aside0.mk ((by rw [hg]; exact (below_size (by repeat (first | (with_reducible first | exact HB.out | apply below_alloc | apply pw_below_drewN | apply below_drew1) | exact HB.out))) : w.heap.size ≤ gb360)); have n9_ := Aside0.mk ((by rw [hg]; exact (below_size (by repeat (first | (with_reducible first | exact HB.out | apply below_alloc | apply pw_below_drewN | apply below_drew1) | exact HB.out))) : w.heap.size ≤ gb360)); clear HO342; clear HO345; clear HO348; clear HO352; clear HO355; clear HO358; clear HB; have HO342 := n0_; have HO345 := n1_; have HO348 := n2_; have HO352 := n3_; have HO355 := n4_; have HO358 := n5_; have HB := n6_; have BK360 := n7_; have GW360 := n8_; have GE360 := n9_; clear n0_ n1_ n2_ n3_ n4_ n5_ n6_ n7_ n8_ n9_; clear hb hbox hg; have hcz23_0 : w22.cell? ⟨gb360, 0, none⟩ = some (.bool false) := (blk_cell BK360.out 0).trans rfl; have hcz23_1 : w22.cell? ⟨gb360, 1, none⟩ = some (.slice none 0 0) := (blk_cell BK360.out 1).trans rfl; have hcz23_2 : w22.cell? ⟨gb360, 2, none⟩ = some (.slice none 0 0) := (blk_cell BK360.out 2).trans rfl; have hcz23_3 : w22.cell? ⟨gb360, 3, none⟩ = some (.slice none 0 0) := (blk_cell BK360.out 3).trans rfl; have hfz23_0 := blk_frozen BK360.out 0; have hfz23_1 := blk_frozen BK360.out 1; have hfz23_2 := blk_frozen BK360.out 2; have hfz23_3 := blk_frozen BK360.out 3; obtain ⟨Ao24, co24, eo24⟩ := Kd.R_slice HO352.out; subst eo24; obtain ⟨Ao25, co25, eo25⟩ := Kd.R_slice HO355.out; subst eo25; obtain ⟨Ao26, co26, eo26⟩ := Kd.R_slice HO358.out; subst eo26))
        (try simp only [Act.put, List.setIfInBounds_toArray, List.set_cons_zero, List.set_cons_succ])
        go_cut [38] (fun v38 wc => ∃ (kq : Nat) (x38_11 : Bool), v38 = .bool x38_11 ∧ Aside0 (offcutlaw16_KnapMany.j1 kq a0 a1 t359 x38_11 t349 t350 t353 t356 = some r) ∧ Aside0 (kq ≤ kj2) ∧ Aside0 (Kd.R (Kd.int .u32) 96 wc w.heap.size (fun k_ => some k_ ≠ ((.slice Ao25 t353.length co25) : Value).ownBlock) (.slice Ao24 t350.length co24) t350) ∧ Aside0 (Kd.R (Kd.int .u32) 96 wc w.heap.size (fun k_ => some k_ ≠ ((.slice Ao24 t350.length co24) : Value).ownBlock) (.slice Ao25 t353.length co25) t353) ∧ Aside0 (Kd.R (Kd.int .i64) 3 wc w.heap.size (fun _ => True) (.slice Ao26 t356.length co26) t356) ∧ Aside0 (wc.heap[gb360]? = some (.cells #[.bool t349, (.slice Ao24 t350.length co24), (.slice Ao25 t353.length co25), (.slice Ao26 t356.length co26)] 41 (0, 0))) ∧ Aside0 (Below w.heap.size w wc))
        case first =>
          have H := HC12.out
          clear HC12
          by_cases c27 : a0 > 512
          · rw [if_pos c27] at H
            have c27b0 : decide (512 < a0) = true := decide_eq_true c27
            clear c27
            (first | rw [c27b0] | (simp only [i64_w, i32_w]; rw [c27b0]) | skip)
            have H' := Aside0.mk H
            clear H
            go_wp2
            go_meet
            case rel => exact ⟨_, (true), (by first | rfl | (simp; done) | (simp [*]; done)), H', ⟨by have := HJ2.out; first | omega | exact Nat.le_refl _⟩, ⟨by (with_reducible repeat (first | apply Kd.R_alloc | apply Kd.R_drewN | apply Kd.R_drew)); exact Kd.R_mono (Kd.R_far (p := ⟨gb360, 3, none⟩) (Kd.R_far (p := ⟨gb360, 2, none⟩) (Kd.R_far (p := ⟨gb360, 1, none⟩) (Kd.R_far (p := ⟨gb360, 0, none⟩) (Kd.R_types HO352.out BK360.out (by decide)) (fun _ hk => hk.2) (.bool t349)) (fun _ hk => hk.2) (.slice Ao24 t350.length co24)) (fun _ hk => hk.2) (.slice Ao25 t353.length co25)) (fun _ hk => hk.2) (.slice Ao26 t356.length co26)) (fun _ hk => by first | exact hk.1 | exact hk.1.1 | exact hk.1.2)⟩, ⟨by (with_reducible repeat (first | apply Kd.R_alloc | apply Kd.R_drewN | apply Kd.R_drew)); exact Kd.R_mono (Kd.R_far (p := ⟨gb360, 3, none⟩) (Kd.R_far (p := ⟨gb360, 2, none⟩) (Kd.R_far (p := ⟨gb360, 1, none⟩) (Kd.R_far (p := ⟨gb360, 0, none⟩) (Kd.R_types HO355.out BK360.out (by decide)) (fun _ hk => hk.2) (.bool t349)) (fun _ hk => hk.2) (.slice Ao24 t350.length co24)) (fun _ hk => hk.2) (.slice Ao25 t353.length co25)) (fun _ hk => hk.2) (.slice Ao26 t356.length co26)) (fun _ hk => by first | exact hk.1 | exact hk.1.1 | exact hk.1.2)⟩, ⟨by (with_reducible repeat (first | apply Kd.R_alloc | apply Kd.R_drewN | apply Kd.R_drew)); exact Kd.R_mono (Kd.R_far (p := ⟨gb360, 3, none⟩) (Kd.R_far (p := ⟨gb360, 2, none⟩) (Kd.R_far (p := ⟨gb360, 1, none⟩) (Kd.R_far (p := ⟨gb360, 0, none⟩) (Kd.R_types HO358.out BK360.out (by decide)) (fun _ hk => hk.2) (.bool t349)) (fun _ hk => hk.2) (.slice Ao24 t350.length co24)) (fun _ hk => hk.2) (.slice Ao25 t353.length co25)) (fun _ hk => hk.2) (.slice Ao26 t356.length co26)) (fun _ hk => trivial)⟩, ⟨by (with_reducible repeat (first | refine blk_drewN ?_ _ | refine blk_drew ?_ | refine blk_alloc ?_ _)); refine blk_put (cs := #[.bool t349, .slice Ao24 t350.length co24, .slice Ao25 t353.length co25, .slice none 0 0]) ?_ 3 _ rfl; (with_reducible repeat (first | refine blk_drewN ?_ _ | refine blk_drew ?_ | refine blk_alloc ?_ _)); refine blk_put (cs := #[.bool t349, .slice Ao24 t350.length co24, .slice none 0 0, .slice none 0 0]) ?_ 2 _ rfl; (with_reducible repeat (first | refine blk_drewN ?_ _ | refine blk_drew ?_ | refine blk_alloc ?_ _)); refine blk_put (cs := #[.bool t349, .slice none 0 0, .slice none 0 0, .slice none 0 0]) ?_ 1 _ rfl; (with_reducible repeat (first | refine blk_drewN ?_ _ | refine blk_drew ?_ | refine blk_alloc ?_ _)); refine blk_put (cs := #[.bool false, .slice none 0 0, .slice none 0 0, .slice none 0 0]) ?_ 0 _ rfl; (with_reducible repeat (first | refine blk_drewN ?_ _ | refine blk_drew ?_ | refine blk_alloc ?_ _)); exact BK360.out⟩, ⟨by repeat (first | (with_reducible first | exact HB.out | apply below_alloc | apply pw_below_drewN | apply below_drew1 | refine below_set ?_ GE360.out) | exact HB.out)⟩⟩
          · rw [if_neg c27] at H
            have c27b0 : decide (512 < a0) = false := decide_eq_false c27
            clear c27
            (first | rw [c27b0] | (simp only [i64_w, i32_w]; rw [c27b0]) | skip)
            have H' := Aside0.mk H
            clear H
            go_wp2
            go_meet
            case rel => exact ⟨_, (decide (a1 > 64)), (by first | rfl | (simp; done) | (simp [*]; done)), H', ⟨by have := HJ2.out; first | omega | exact Nat.le_refl _⟩, ⟨by (with_reducible repeat (first | apply Kd.R_alloc | apply Kd.R_drewN | apply Kd.R_drew)); exact Kd.R_mono (Kd.R_far (p := ⟨gb360, 3, none⟩) (Kd.R_far (p := ⟨gb360, 2, none⟩) (Kd.R_far (p := ⟨gb360, 1, none⟩) (Kd.R_far (p := ⟨gb360, 0, none⟩) (Kd.R_types HO352.out BK360.out (by decide)) (fun _ hk => hk.2) (.bool t349)) (fun _ hk => hk.2) (.slice Ao24 t350.length co24)) (fun _ hk => hk.2) (.slice Ao25 t353.length co25)) (fun _ hk => hk.2) (.slice Ao26 t356.length co26)) (fun _ hk => by first | exact hk.1 | exact hk.1.1 | exact hk.1.2)⟩, ⟨by (with_reducible repeat (first | apply Kd.R_alloc | apply Kd.R_drewN | apply Kd.R_drew)); exact Kd.R_mono (Kd.R_far (p := ⟨gb360, 3, none⟩) (Kd.R_far (p := ⟨gb360, 2, none⟩) (Kd.R_far (p := ⟨gb360, 1, none⟩) (Kd.R_far (p := ⟨gb360, 0, none⟩) (Kd.R_types HO355.out BK360.out (by decide)) (fun _ hk => hk.2) (.bool t349)) (fun _ hk => hk.2) (.slice Ao24 t350.length co24)) (fun _ hk => hk.2) (.slice Ao25 t353.length co25)) (fun _ hk => hk.2) (.slice Ao26 t356.length co26)) (fun _ hk => by first | exact hk.1 | exact hk.1.1 | exact hk.1.2)⟩, ⟨by (with_reducible repeat (first | apply Kd.R_alloc | apply Kd.R_drewN | apply Kd.R_drew)); exact Kd.R_mono (Kd.R_far (p := ⟨gb360, 3, none⟩) (Kd.R_far (p := ⟨gb360, 2, none⟩) (Kd.R_far (p := ⟨gb360, 1, none⟩) (Kd.R_far (p := ⟨gb360, 0, none⟩) (Kd.R_types HO358.out BK360.out (by decide)) (fun _ hk => hk.2) (.bool t349)) (fun _ hk => hk.2) (.slice Ao24 t350.length co24)) (fun _ hk => hk.2) (.slice Ao25 t353.length co25)) (fun _ hk => hk.2) (.slice Ao26 t356.length co26)) (fun _ hk => trivial)⟩, ⟨by (with_reducible repeat (first | refine blk_drewN ?_ _ | refine blk_drew ?_ | refine blk_alloc ?_ _)); refine blk_put (cs := #[.bool t349, .slice Ao24 t350.length co24, .slice Ao25 t353.length co25, .slice none 0 0]) ?_ 3 _ rfl; (with_reducible repeat (first | refine blk_drewN ?_ _ | refine blk_drew ?_ | refine blk_alloc ?_ _)); refine blk_put (cs := #[.bool t349, .slice Ao24 t350.length co24, .slice none 0 0, .slice none 0 0]) ?_ 2 _ rfl; (with_reducible repeat (first | refine blk_drewN ?_ _ | refine blk_drew ?_ | refine blk_alloc ?_ _)); refine blk_put (cs := #[.bool t349, .slice none 0 0, .slice none 0 0, .slice none 0 0]) ?_ 1 _ rfl; (with_reducible repeat (first | refine blk_drewN ?_ _ | refine blk_drew ?_ | refine blk_alloc ?_ _)); refine blk_put (cs := #[.bool false, .slice none 0 0, .slice none 0 0, .slice none 0 0]) ?_ 0 _ rfl; (with_reducible repeat (first | refine blk_drewN ?_ _ | refine blk_drew ?_ | refine blk_alloc ?_ _)); exact BK360.out⟩, ⟨by repeat (first | (with_reducible first | exact HB.out | apply below_alloc | apply pw_below_drewN | apply below_drew1 | refine below_set ?_ GE360.out) | exact HB.out)⟩⟩
        case rest =>
          clear HC12
          try clear c1
          try clear c2
          try clear p2
          try clear c4
          try clear c4b0
          try clear c5
          try clear c5b0
          try clear c6
          try clear c6b0
          try clear c7
          try clear c10
          try clear c11
          try clear c13
          try clear c27
          try clear c27b0
          try clear hcz23_0
          try clear hcz23_1
          try clear hcz23_2
          try clear hcz23_3
          try clear hfz23_0
          try clear hfz23_1
          try clear hfz23_2
          try clear hfz23_3
          try clear p2
          obtain ⟨kq, x38_11, rfl, HA, HJ11, HO_361001, HO_361002, HO_361003, BK360, HB⟩ := hcut
          cases kq with
          | zero => exact absurd HA.out (by simp [offcutlaw16_KnapMany.j1])
          | succ kj11 =>
            have H := HA.out
            clear HA
            simp only [offcutlaw16_KnapMany.j1] at H
            by_cases c28 : x38_11 = true
            · subst c28
              have H1 : (if (t356.length : Int) = 0 then (if t359 = 4 then ((offcutlaw16_awake.f kj11).bind fun t361 => (some t361)) else (some false)) else (some false)) = some r := by rw [if_pos rfl] at H; exact H
              clear H
              have H := H1
              clear H1
              by_cases c29 : (t356.length : Int) = 0
              · rw [if_pos c29] at H
                have c29b0 : ((t356.length : Int) == 0) = true := beq_iff_eq.mpr c29
                have c29b1 : ((t356.length : Int) != 0) = false := bne_eq_false_iff_eq.mpr c29
                clear c29
                by_cases c30 : t359 = 4
                · rw [if_pos c30] at H
                  have c30b0 : (t359 == 4) = true := beq_iff_eq.mpr c30
                  have c30b1 : (t359 != 4) = false := bne_eq_false_iff_eq.mpr c30
                  clear c30
                  replace H := Option.bind_eq_some_iff.mp H
                  obtain ⟨t361, A310, H⟩ := H
                  replace H : (some t361) = some r := H
                  have A31 := Aside0.mk A310
                  clear A310
                  obtain rfl := Option.some.inj H
                  have hcz32_0 : wc.cell? ⟨gb360, 0, none⟩ = some (.bool t349) := (blk_cell BK360.out 0).trans rfl
                  have hcz32_1 : wc.cell? ⟨gb360, 1, none⟩ = some (.slice Ao24 t350.length co24) := (blk_cell BK360.out 1).trans rfl
                  have hcz32_2 : wc.cell? ⟨gb360, 2, none⟩ = some (.slice Ao25 t353.length co25) := (blk_cell BK360.out 2).trans rfl
                  have hcz32_3 : wc.cell? ⟨gb360, 3, none⟩ = some (.slice Ao26 t356.length co26) := (blk_cell BK360.out 3).trans rfl
                  have hfz32_0 := blk_frozen BK360.out 0
                  have hfz32_1 := blk_frozen BK360.out 1
                  have hfz32_2 := blk_frozen BK360.out 2
                  have hfz32_3 := blk_frozen BK360.out 3
                  go_wp2_with (first | (go_at_call 10; (with_reducible refine (offcutlaw16_awake.calls kj11  t361 _ A31.out).mono ?_); rintro e w33 ⟨rfl, hb⟩; have n0_ := Aside0.mk (Kd.R_below (by (with_reducible repeat (first | apply Kd.R_alloc | apply Kd.R_drewN | apply Kd.R_drew)); exact HO_361001.out) hb); have n1_ := Aside0.mk (Kd.R_below (by (with_reducible repeat (first | apply Kd.R_alloc | apply Kd.R_drewN | apply Kd.R_drew)); exact HO_361002.out) hb); have n2_ := Aside0.mk (Kd.R_below (by (with_reducible repeat (first | apply Kd.R_alloc | apply Kd.R_drewN | apply Kd.R_drew)); exact HO_361003.out) hb); have n3_ := Aside0.mk (blk_below (g := gb360) (o := .cells #[.bool t349, .slice Ao24 t350.length co24, .slice Ao25 t353.length co25, .slice Ao26 t356.length co26] 41 (0, 0)) (by (with_reducible repeat (first | refine blk_drewN ?_ _ | refine blk_drew ?_ | refine blk_alloc ?_ _)); exact BK360.out) hb); have n4_ := Aside0.mk (below_step (by repeat (first | (with_reducible first | exact HB.out | apply below_alloc | apply pw_below_drewN | apply below_drew1 | refine below_set ?_ GE360.out) | exact HB.out)) hb); clear HO_361001; clear HO_361002; clear HO_361003; clear BK360; clear HB; have HO_361001 := n0_; have HO_361002 := n1_; have HO_361003 := n2_; have BK360 := n3_; have HB := n4_; clear n0_ n1_ n2_ n3_ n4_; (try clear hb); (try clear hb2); (try clear hk); (try clear hi)))
                  go_ret
                  exact ⟨by first | rfl | (simp [errW_none, errW_some] <;> rfl) | (simp [*, errW_none, errW_some] <;> rfl), by repeat (first | (with_reducible first | exact HB.out | apply below_alloc | apply pw_below_drewN | apply below_drew1 | refine below_set ?_ GE360.out) | exact HB.out)⟩
                · rw [if_neg c30] at H
                  have c30b0 : (t359 == 4) = false := beq_eq_false_iff_ne.mpr c30
                  have c30b1 : (t359 != 4) = true := bne_iff_ne.mpr c30
                  obtain rfl := Option.some.inj H
                  have hcz34_0 : wc.cell? ⟨gb360, 0, none⟩ = some (.bool t349) := (blk_cell BK360.out 0).trans rfl
                  have hcz34_1 : wc.cell? ⟨gb360, 1, none⟩ = some (.slice Ao24 t350.length co24) := (blk_cell BK360.out 1).trans rfl
                  have hcz34_2 : wc.cell? ⟨gb360, 2, none⟩ = some (.slice Ao25 t353.length co25) := (blk_cell BK360.out 2).trans rfl
                  have hcz34_3 : wc.cell? ⟨gb360, 3, none⟩ = some (.slice Ao26 t356.length co26) := (blk_cell BK360.out 3).trans rfl
                  have hfz34_0 := blk_frozen BK360.out 0
                  have hfz34_1 := blk_frozen BK360.out 1
                  have hfz34_2 := blk_frozen BK360.out 2
                  have hfz34_3 := blk_frozen BK360.out 3
                  go_wp2
                  go_ret
                  exact ⟨by first | rfl | (simp [errW_none, errW_some] <;> rfl) | (simp [*, errW_none, errW_some] <;> rfl), by repeat (first | (with_reducible first | exact HB.out | apply below_alloc | apply pw_below_drewN | apply below_drew1 | refine below_set ?_ GE360.out) | exact HB.out)⟩
              · rw [if_neg c29] at H
                have c29b0 : ((t356.length : Int) == 0) = false := beq_eq_false_iff_ne.mpr c29
                have c29b1 : ((t356.length : Int) != 0) = true := bne_iff_ne.mpr c29
                have c29b2 : ¬ (t356 = []) := fun h_ => c29 (by rw [h_]; rfl)
                obtain rfl := Option.some.inj H
                have hcz35_0 : wc.cell? ⟨gb360, 0, none⟩ = some (.bool t349) := (blk_cell BK360.out 0).trans rfl
                have hcz35_1 : wc.cell? ⟨gb360, 1, none⟩ = some (.slice Ao24 t350.length co24) := (blk_cell BK360.out 1).trans rfl
                have hcz35_2 : wc.cell? ⟨gb360, 2, none⟩ = some (.slice Ao25 t353.length co25) := (blk_cell BK360.out 2).trans rfl
                have hcz35_3 : wc.cell? ⟨gb360, 3, none⟩ = some (.slice Ao26 t356.length co26) := (blk_cell BK360.out 3).trans rfl
                have hfz35_0 := blk_frozen BK360.out 0
                have hfz35_1 := blk_frozen BK360.out 1
                have hfz35_2 := blk_frozen BK360.out 2
                have hfz35_3 := blk_frozen BK360.out 3
                go_wp2
                go_ret
                exact ⟨by first | rfl | (simp [errW_none, errW_some] <;> rfl) | (simp [*, errW_none, errW_some] <;> rfl), by repeat (first | (with_reducible first | exact HB.out | apply below_alloc | apply pw_below_drewN | apply below_drew1 | refine below_set ?_ GE360.out) | exact HB.out)⟩
            · replace c28 := Bool.eq_false_iff.mpr c28
              subst c28
              have H1 : (if t359 = 0 then (if (t356.length : Int) = 1 then (if 0 < (t356.length : Int) then (if (rd t356 0) = (mn a0 a1) then ((offcutlaw16_awake.f kj11).bind fun t363 => (some t363)) else (some false)) else (none)) else (some false)) else (some false)) = some r := by rw [if_neg (show ¬ (false = true) by decide)] at H; exact H
              clear H
              have H := H1
              clear H1
              by_cases c36 : t359 = 0
              · rw [if_pos c36] at H
                have c36b0 : (t359 == 0) = true := beq_iff_eq.mpr c36
                have c36b1 : (t359 != 0) = false := bne_eq_false_iff_eq.mpr c36
                clear c36
                by_cases c37 : (t356.length : Int) = 1
                · rw [if_pos c37] at H
                  have c37b0 : ((t356.length : Int) == 1) = true := beq_iff_eq.mpr c37
                  have c37b1 : ((t356.length : Int) != 1) = false := bne_eq_false_iff_eq.mpr c37
                  clear c37
                  by_cases c38 : 0 < (t356.length : Int)
                  · rw [if_pos c38] at H
                    have c38b0 : decide (0 < (t356.length : Int)) = true := decide_eq_true c38
                    have c38b1 : decide (0 < t356.length) = true := decide_eq_true (by omega)
                    clear c38
                    obtain ⟨ji39, hji39⟩ : ∃ j_ : Int, (mn a0 a1) = j_ := ⟨_, rfl⟩
                    replace H : (if (rd t356 0) = (ji39) then ((offcutlaw16_awake.f kj11).bind fun t363 => (some t363)) else (some false)) = some r := by first | (rw [hji39] at H; exact H) | (simp only [hji39] at H ⊢; exact H)
                    have hji39_ : (if a1 < a0 then a1 else a0) = ji39 := hji39
                    by_cases c40 : (rd t356 0) = (ji39)
                    · rw [if_pos c40] at H
                      have c40b0 : ((rd t356 0) == (ji39)) = true := beq_iff_eq.mpr c40
                      have c40b1 : ((rd t356 0) != (ji39)) = false := bne_eq_false_iff_eq.mpr c40
                      clear c40
                      replace H := Option.bind_eq_some_iff.mp H
                      obtain ⟨t363, A410, H⟩ := H
                      replace H : (some t363) = some r := H
                      have A41 := Aside0.mk A410
                      clear A410
                      obtain rfl := Option.some.inj H
                      have hcz42_0 : wc.cell? ⟨gb360, 0, none⟩ = some (.bool t349) := (blk_cell BK360.out 0).trans rfl
                      have hcz42_1 : wc.cell? ⟨gb360, 1, none⟩ = some (.slice Ao24 t350.length co24) := (blk_cell BK360.out 1).trans rfl
                      have hcz42_2 : wc.cell? ⟨gb360, 2, none⟩ = some (.slice Ao25 t353.length co25) := (blk_cell BK360.out 2).trans rfl
                      have hcz42_3 : wc.cell? ⟨gb360, 3, none⟩ = some (.slice Ao26 t356.length co26) := (blk_cell BK360.out 3).trans rfl
                      have hfz42_0 := blk_frozen BK360.out 0
                      have hfz42_1 := blk_frozen BK360.out 1
                      have hfz42_2 := blk_frozen BK360.out 2
                      have hfz42_3 := blk_frozen BK360.out 3
                      have p362 : 0 ≤ (0 : Int) := (by omega)
                      have q362 : 0 < (t356.length : Int) := of_decide_eq_true (by first | (with_reducible assumption) | assumption)
                      obtain ⟨ad362, e362, hx362_0⟩ := Kd.at_int (Kd.R_reads' HO_361003.out).2.2 0 p362 q362
                      cases e362
                      have qi362 : (0 < t356.length) = True := eq_true (by omega)
                      (try rw [show ((0 : Int)).toNat = 0 from rfl] at hx362_0)
                      (try rw [Addr.add_zero'] at hx362_0)
                      replace p362 := eq_true p362
                      replace q362 := eq_true q362
                      go_wp2_with (first | (go_at_call 10; (with_reducible refine (offcutlaw16_awake.calls kj11  t363 _ A41.out).mono ?_); rintro e w43 ⟨rfl, hb⟩; have n0_ := Aside0.mk (Kd.R_below (by (with_reducible repeat (first | apply Kd.R_alloc | apply Kd.R_drewN | apply Kd.R_drew)); exact HO_361001.out) hb); have n1_ := Aside0.mk (Kd.R_below (by (with_reducible repeat (first | apply Kd.R_alloc | apply Kd.R_drewN | apply Kd.R_drew)); exact HO_361002.out) hb); have n2_ := Aside0.mk (Kd.R_below (by (with_reducible repeat (first | apply Kd.R_alloc | apply Kd.R_drewN | apply Kd.R_drew)); exact HO_361003.out) hb); have n3_ := Aside0.mk (blk_below (g := gb360) (o := .cells #[.bool t349, .slice Ao24 t350.length co24, .slice Ao25 t353.length co25, .slice (some ad362) t356.length co26] 41 (0, 0)) (by (with_reducible repeat (first | refine blk_drewN ?_ _ | refine blk_drew ?_ | refine blk_alloc ?_ _)); exact BK360.out) hb); have n4_ := Aside0.mk (below_step (by repeat (first | (with_reducible first | exact HB.out | apply below_alloc | apply pw_below_drewN | apply below_drew1 | refine below_set ?_ GE360.out) | exact HB.out)) hb); clear HO_361001; clear HO_361002; clear HO_361003; clear BK360; clear HB; have HO_361001 := n0_; have HO_361002 := n1_; have HO_361003 := n2_; have BK360 := n3_; have HB := n4_; clear n0_ n1_ n2_ n3_ n4_; (try clear hb); (try clear hb2); (try clear hk); (try clear hi)))
                      go_ret
                      exact ⟨by first | rfl | (simp [errW_none, errW_some] <;> rfl) | (simp only [← hji39]; first | rfl | (simp [errW_none, errW_some] <;> rfl)) | (simp [*, errW_none, errW_some] <;> rfl), by repeat (first | (with_reducible first | exact HB.out | apply below_alloc | apply pw_below_drewN | apply below_drew1 | refine below_set ?_ GE360.out) | exact HB.out)⟩
                    · rw [if_neg c40] at H
                      have c40b0 : ((rd t356 0) == (ji39)) = false := beq_eq_false_iff_ne.mpr c40
                      have c40b1 : ((rd t356 0) != (ji39)) = true := bne_iff_ne.mpr c40
                      obtain rfl := Option.some.inj H
                      have hcz44_0 : wc.cell? ⟨gb360, 0, none⟩ = some (.bool t349) := (blk_cell BK360.out 0).trans rfl
                      have hcz44_1 : wc.cell? ⟨gb360, 1, none⟩ = some (.slice Ao24 t350.length co24) := (blk_cell BK360.out 1).trans rfl
                      have hcz44_2 : wc.cell? ⟨gb360, 2, none⟩ = some (.slice Ao25 t353.length co25) := (blk_cell BK360.out 2).trans rfl
                      have hcz44_3 : wc.cell? ⟨gb360, 3, none⟩ = some (.slice Ao26 t356.length co26) := (blk_cell BK360.out 3).trans rfl
                      have hfz44_0 := blk_frozen BK360.out 0
                      have hfz44_1 := blk_frozen BK360.out 1
                      have hfz44_2 := blk_frozen BK360.out 2
                      have hfz44_3 := blk_frozen BK360.out 3
                      have p362 : 0 ≤ (0 : Int) := (by omega)
                      have q362 : 0 < (t356.length : Int) := of_decide_eq_true (by first | (with_reducible assumption) | assumption)
                      obtain ⟨ad362, e362, hx362_0⟩ := Kd.at_int (Kd.R_reads' HO_361003.out).2.2 0 p362 q362
                      cases e362
                      have qi362 : (0 < t356.length) = True := eq_true (by omega)
                      (try rw [show ((0 : Int)).toNat = 0 from rfl] at hx362_0)
                      (try rw [Addr.add_zero'] at hx362_0)
                      replace p362 := eq_true p362
                      replace q362 := eq_true q362
                      go_wp2
                      go_ret
                      exact ⟨by first | rfl | (simp [errW_none, errW_some] <;> rfl) | (simp only [← hji39]; first | rfl | (simp [errW_none, errW_some] <;> rfl)) | (simp [*, errW_none, errW_some] <;> rfl), by repeat (first | (with_reducible first | exact HB.out | apply below_alloc | apply pw_below_drewN | apply below_drew1 | refine below_set ?_ GE360.out) | exact HB.out)⟩
                  · rw [if_neg c38] at H
                    exact absurd H (by simp)
                · rw [if_neg c37] at H
                  have c37b0 : ((t356.length : Int) == 1) = false := beq_eq_false_iff_ne.mpr c37
                  have c37b1 : ((t356.length : Int) != 1) = true := bne_iff_ne.mpr c37
                  obtain rfl := Option.some.inj H
                  have hcz45_0 : wc.cell? ⟨gb360, 0, none⟩ = some (.bool t349) := (blk_cell BK360.out 0).trans rfl
                  have hcz45_1 : wc.cell? ⟨gb360, 1, none⟩ = some (.slice Ao24 t350.length co24) := (blk_cell BK360.out 1).trans rfl
                  have hcz45_2 : wc.cell? ⟨gb360, 2, none⟩ = some (.slice Ao25 t353.length co25) := (blk_cell BK360.out 2).trans rfl
                  have hcz45_3 : wc.cell? ⟨gb360, 3, none⟩ = some (.slice Ao26 t356.length co26) := (blk_cell BK360.out 3).trans rfl
                  have hfz45_0 := blk_frozen BK360.out 0
                  have hfz45_1 := blk_frozen BK360.out 1
                  have hfz45_2 := blk_frozen BK360.out 2
                  have hfz45_3 := blk_frozen BK360.out 3
                  go_wp2
                  go_ret
                  exact ⟨by first | rfl | (simp [errW_none, errW_some] <;> rfl) | (simp [*, errW_none, errW_some] <;> rfl), by repeat (first | (with_reducible first | exact HB.out | apply below_alloc | apply pw_below_drewN | apply below_drew1 | refine below_set ?_ GE360.out) | exact HB.out)⟩
              · rw [if_neg c36] at H
                have c36b0 : (t359 == 0) = false := beq_eq_false_iff_ne.mpr c36
                have c36b1 : (t359 != 0) = true := bne_iff_ne.mpr c36
                obtain rfl := Option.some.inj H
                go_wp2
                go_ret
                exact ⟨by first | rfl | (simp [errW_none, errW_some] <;> rfl) | (simp [*, errW_none, errW_some] <;> rfl), by repeat (first | (with_reducible first | exact HB.out | apply below_alloc | apply pw_below_drewN | apply below_drew1 | refine below_set ?_ GE360.out) | exact HB.out)⟩

/-- THE ONE PURE STATEMENT of offcutlaw16_KnapMany: yours. -/
def offcutlaw16_KnapMany.Pure : Prop := ∀ (a0 : Int) (a1 : Int), (Lit.int .i64 a0).wf = true → (Lit.int .i64 a1).wf = true → ∃ k, offcutlaw16_KnapMany.f k a0 a1 = some true
theorem offcutlaw16_KnapMany.walk (P : offcutlaw16_KnapMany.Pure) (a0 : Int) (a1 : Int) (w : World) (w0 : (Lit.int .i64 a0).wf = true) (w1 : (Lit.int .i64 a1).wf = true) :
    Calls Try.prog 4 #[.int .i64 a0, .int .i64 a1] w fun e w' => e = .returned (.bool true) ∧ Below w.heap.size w w' := by
  obtain ⟨k, h⟩ := P a0 a1 w0 w1
  refine (offcutlaw16_KnapMany.calls k a0 a1 true w h).mono ?_
  rintro e w' ⟨rfl, hd⟩
  exact ⟨rfl, hd⟩

end Go.Proofs.Ytgnffmbaecabnaa.M
