-- Printed by a program of this session's own (wip/myprint.py), out of the kit's print with functions given by hand. Lean checks it.
import Derived.Test.YtgnffmbaecabnaaM0
import Derived.Test.YtgnffmbaecabnaaM2
import Derived.Test.YtgnffmbaecabnaaM4
import Derived.Test.YtgnffmbaecabnaaM8
import Derived.Test.YtgnffmbaecabnaaM9
import Derived.Test.YtgnffmbaecabnaaM10
namespace Go.Proofs.Ytgnffmbaecabnaa.M
open Go.RowKit Go.Shelf Go.Proofs.YtgnffmbaecabnaaW.PrintWords Go.Proofs.YtgnffmbaecabnaaW.PrintLast Go.Proofs.YtgnffmbaecabnaaW.PrintMore
attribute [local go_sem] z33q z31q max_two min_two z28q z27q z32q z30q   -- for this text's walks alone
set_option linter.unusedVariables false
set_option linter.unusedSimpArgs false
set_option maxRecDepth 100000
def offcutlaw16_awake.f (_k : Nat) : Option Bool := some true
theorem offcutlaw16_awake.mono : ∀ k, LeO (offcutlaw16_awake.f k) (offcutlaw16_awake.f (k + 1)) := fun _ => LeO.refl _
theorem aw_ints : vec_Ints.f 100 [5, 3] = some [toS 5, toS 3] := by kernel_rfl
theorem aw_text : rat_Text.f 100 (toS 6).f0.f0 (toS 6).f0.f1 (toS 6).f1 = some ⟨#[54]⟩ := by decide +kernel
theorem aw_fits : knap_Fits.f 100 10 [⟨6, 2⟩, ⟨5, 2⟩] [0, 2] = some true := by decide +kernel
theorem aw_use : knap_Use.f 100 10 [⟨6, 2⟩, ⟨5, 2⟩] [0, 2] = some 10 := by decide +kernel
theorem aw_best : knap_Best.f 10 [⟨6, 2⟩, ⟨5, 2⟩] [toS 5, toS 3] = some ((toS 6).f0.f0, (toS 6).f0.f1, (toS 6).f1, [0, 2], 0) := by decide +kernel
theorem aw_all : ∃ (ls : List S39) (m : Bool) (nu de : List Int), vec_Ints.f 100 [5, 3] = some ls ∧ knap_Best.f 10 [⟨6, 2⟩, ⟨5, 2⟩] ls = some (m, nu, de, [0, 2], 0) ∧ rat_Text.f 100 m nu de = some ⟨#[54]⟩ := ⟨_, _, _, _, aw_ints, aw_best, aw_text⟩
theorem C_lit2 {w : World} {g : Nat} {t : Nat} {x y : Int} (h : w.heap[g]? = some (.cells #[.int .i64 x, .int .i64 y] t (0, 0))) : Kd.C (Kd.int .i64) w (some ⟨g, 0, none⟩) 2 [x, y] := by
  refine ⟨rfl, by decide, fun _ => ⟨_, rfl, fun j p hp => ?_⟩⟩
  match j, hp with
  | 0, hp =>
    obtain rfl : x = p := by simpa using hp
    refine ⟨[.int .i64 x], rfl, rfl, fun i u hu => ?_⟩
    match i, hu with
    | 0, hu => obtain rfl : Value.int .i64 x = u := by simpa using hu
               exact (z04q h 0).trans rfl
    | i + 1, hu => simp at hu
  | 1, hp =>
    obtain rfl : y = p := by simpa using hp
    refine ⟨[.int .i64 y], rfl, rfl, fun i u hu => ?_⟩
    match i, hu with
    | 0, hu => obtain rfl : Value.int .i64 y = u := by simpa using hu
               exact (z04q h 1).trans rfl
    | i + 1, hu => simp at hu
  | j + 2, hp => simp at hp
theorem C_items2 {w : World} {g : Nat} {t : Nat} {x y x' y' : Int} (h : w.heap[g]? = some (.cells #[.int .i64 x, .int .i64 y, .int .i64 x', .int .i64 y'] t (0, 0))) : Kd.C k46 w (some ⟨g, 0, none⟩) 2 [⟨x, y⟩, ⟨x', y'⟩] := by
  refine ⟨rfl, by decide, fun _ => ⟨_, rfl, fun j p hp => ?_⟩⟩
  match j, hp with
  | 0, hp =>
    obtain rfl : (⟨x, y⟩ : S46) = p := by simpa using hp
    refine ⟨_, rfl, k46_mk w _, fun i u hu => ?_⟩
    match i, hu with
    | 0, hu => obtain rfl : Value.int .i64 x = u := by simpa using hu
               exact (z04q h 0).trans rfl
    | 1, hu => obtain rfl : Value.int .i64 y = u := by simpa using hu
               exact (z04q h 1).trans rfl
    | i + 2, hu => simp at hu
  | 1, hp =>
    obtain rfl : (⟨x', y'⟩ : S46) = p := by simpa using hp
    refine ⟨_, rfl, k46_mk w _, fun i u hu => ?_⟩
    match i, hu with
    | 0, hu => obtain rfl : Value.int .i64 x' = u := by simpa using hu
               exact (z04q h 2).trans rfl
    | 1, hu => obtain rfl : Value.int .i64 y' = u := by simpa using hu
               exact (z04q h 3).trans rfl
    | i + 2, hu => simp at hu
  | j + 2, hp => simp at hp
def Rows3 (W : World) (v1 v2 v3 : Value) (r2 r3 r4 : List Int) : Prop := ∃ (base : Nat) (o1 o2 o3 : Nat → Prop), Kd.R (Kd.int .u32) 96 W base o1 v1 r2 ∧ Kd.R (Kd.int .u32) 96 W base o2 v2 r3 ∧ Kd.R (Kd.int .i64) 3 W base o3 v3 r4
theorem Rows3.below {W W1 : World} {v1 v2 v3 : Value} {r2 r3 r4 : List Int} (h : Rows3 W v1 v2 v3 r2 r3 r4) (hb : Below W.heap.size W W1) : Rows3 W1 v1 v2 v3 r2 r3 r4 := by
  obtain ⟨b, o1, o2, o3, h1, h2, h3⟩ := h
  exact ⟨b, o1, o2, o3, Kd.R_below h1 hb, Kd.R_below h2 hb, Kd.R_below h3 hb⟩
theorem R_set4 {α : Type} {d : Kd α} {e : Nat} {w : World} {base : Nat} {ok : Nat → Prop} {v : Value} {xs : List α} (h : d.R e w base ok v xs) {g t : Nat} {cells : Array Value} (hb : w.heap[g]? = some (.cells cells t (0, 0))) (ht : ∀ q, q ∈ e :: d.E → q ≠ t) (x y z u : Value) : d.R e (set4 w g x y z u) base (fun k => ok k ∧ k ≠ g) v xs :=
  Kd.R_far (p := ⟨g, 3, none⟩) (Kd.R_far (p := ⟨g, 2, none⟩) (Kd.R_far (p := ⟨g, 1, none⟩) (Kd.R_far (p := ⟨g, 0, none⟩) (Kd.R_types h hb ht) (fun _ hk => hk.2) x) (fun _ hk => hk.2) y) (fun _ hk => hk.2) z) (fun _ hk => hk.2) u
theorem Rows3.set4 {W : World} {v1 v2 v3 : Value} {r2 r3 r4 : List Int} (h : Rows3 W v1 v2 v3 r2 r3 r4) {g : Nat} {cells : Array Value} (hb : W.heap[g]? = some (.cells cells 41 (0, 0))) (x y z u : Value) : Rows3 (set4 W g x y z u) v1 v2 v3 r2 r3 r4 := by
  obtain ⟨b, o1, o2, o3, h1, h2, h3⟩ := h
  exact ⟨b, _, _, _, R_set4 h1 hb (by decide) x y z u, R_set4 h2 hb (by decide) x y z u, R_set4 h3 hb (by decide) x y z u⟩
theorem Rows3.reads {W : World} {E1 E2 E3 : Option Addr} {n1 n2 n3 c1 c2 c3 : Nat} {r2 r3 r4 : List Int} (h : Rows3 W (.slice E1 n1 c1) (.slice E2 n2 c2) (.slice E3 n3 c3) r2 r3 r4) :
    (n1 = r2.length ∧ n1 ≤ c1 ∧ Kd.C (Kd.int .u32) W E1 r2.length r2) ∧ (n2 = r3.length ∧ n2 ≤ c2 ∧ Kd.C (Kd.int .u32) W E2 r3.length r3) ∧ (n3 = r4.length ∧ n3 ≤ c3 ∧ Kd.C (Kd.int .i64) W E3 r4.length r4) := by
  obtain ⟨b, o1, o2, o3, h1, h2, h3⟩ := h
  exact ⟨Kd.R_reads' h1, Kd.R_reads' h2, Kd.R_reads' h3⟩
def AwF (Y F : World) (X : Nat) (q0 : Bool) (E1 E2 : Option Addr) (ad : Addr) (c1 c2 c3 : Nat) (q1 q2 : List Int) : Prop :=
  Below Y.heap.size Y F ∧ F.heap[X]? = some (.cells #[.bool q0, .slice E1 q1.length c1, .slice E2 q2.length c2, .slice (some ad) 2 c3] 41 (0, 0)) ∧ Kd.C (Kd.int .u32) F E1 q1.length q1 ∧ Kd.C (Kd.int .u32) F E2 q2.length q2 ∧ Kd.C (Kd.int .i64) F (some ad) 2 [0, 2] ∧ F.cell? ⟨ad.block, ad.off + 1, none⟩ = some (.int .i64 2)
theorem AwF.mk' {Y F : World} {X : Nat} {q0 : Bool} {E1 E2 : Option Addr} {ad : Addr} {c1 c2 c3 : Nat} {q1 q2 : List Int} (h1 : Below Y.heap.size Y F) (h2 : F.heap[X]? = some (.cells #[.bool q0, .slice E1 q1.length c1, .slice E2 q2.length c2, .slice (some ad) 2 c3] 41 (0, 0))) (h3 : Kd.C (Kd.int .u32) F E1 q1.length q1) (h4 : Kd.C (Kd.int .u32) F E2 q2.length q2) (h5 : Kd.C (Kd.int .i64) F (some ad) 2 [0, 2]) (h6 : F.cell? ⟨ad.block, ad.off + 1, none⟩ = some (.int .i64 2)) : AwF Y F X q0 E1 E2 ad c1 c2 c3 q1 q2 := ⟨h1, h2, h3, h4, h5, h6⟩
theorem AwF.below {Y F G : World} {X : Nat} {q0 : Bool} {E1 E2 : Option Addr} {ad : Addr} {c1 c2 c3 : Nat} {q1 q2 : List Int} (h : AwF Y F X q0 E1 E2 ad c1 c2 c3 q1 q2) (hb : Below F.heap.size F G) : AwF Y G X q0 E1 E2 ad c1 c2 c3 q1 q2 :=
  ⟨h.1.trans (hb.mono h.1.size), z09q h.2.1 hb, Kd.C_below h.2.2.1 hb, Kd.C_below h.2.2.2.1 hb, Kd.C_below h.2.2.2.2.1 hb, z15q hb h.2.2.2.2.2⟩
theorem AwF.cells {Y F : World} {X : Nat} {q0 : Bool} {E1 E2 : Option Addr} {ad : Addr} {c1 c2 c3 : Nat} {q1 q2 : List Int} (h : AwF Y F X q0 E1 E2 ad c1 c2 c3 q1 q2) : F.cell? ⟨X, 0, none⟩ = some (.bool q0) ∧ F.cell? ⟨X, 1, none⟩ = some (.slice E1 q1.length c1) ∧ F.cell? ⟨X, 2, none⟩ = some (.slice E2 q2.length c2) ∧ F.cell? ⟨X, 3, none⟩ = some (.slice (some ad) 2 c3) := by
  obtain ⟨g0, g1, g2, g3, -⟩ := box4_cells h.2.1
  exact ⟨g0, g1, g2, g3⟩
section
attribute [local go_sem] Oper.semAt_some
set_option maxHeartbeats 8000000 in
theorem offcutlaw16_awake.calls (k : Nat) (r : Bool) (w : World) (h : offcutlaw16_awake.f k = some r) :
    Calls Try.prog 10 #[] w fun e w' => e = .returned (.bool r) ∧ Below w.heap.size w w' := by
  obtain rfl : true = r := Option.some.inj h
  clear h
  have hmx : Try.prog.follows .mixedOrders = true := by kernel_rfl
  obtain ⟨ls, q0, q1, q2, hls, hq, hqt⟩ := aw_all
  have HINT := Aside0.mk hls
  have HBEST := Aside0.mk hq
  have HTEXT := Aside0.mk hqt
  have HFITS := Aside0.mk aw_fits
  have HUSE := Aside0.mk aw_use
  clear hls hq hqt
  refine (callsIn_wide (n := 8)).1 ?_
  refine callsIn_of_wp_marks Try.func10 rfl trivial ?_ rfl
  refine wpIn_noPanic ?_
  simp only [Try.ntmps10, List.size_toArray, List.length_cons, List.length_nil, Nat.reduceAdd, Nat.reduceSub, Array.replicate_succ, Array.replicate_zero, List.push_toArray, List.append_toArray, List.nil_append, List.cons_append]
  gi_wp2
  have hYB : Below w.heap.size w ((w.alloc (.cells #[.int .i64 6, .int .i64 2, .int .i64 5, .int .i64 2] 46)).alloc (.cells #[.int .i64 10, .slice (some ⟨w.heap.size, 0, none⟩) 2 2] 24)) := ((Below.refl _ w).alloc (Nat.le_refl _) _).alloc (by simp) _
  have hYi := z05q (World.alloc_heap_new w (.cells #[.int .i64 6, .int .i64 2, .int .i64 5, .int .i64 2] 46)) (.cells #[.int .i64 10, .slice (some ⟨w.heap.size, 0, none⟩) 2 2] 24)
  have hYb := World.alloc_heap_new (w.alloc (.cells #[.int .i64 6, .int .i64 2, .int .i64 5, .int .i64 2] 46)) (.cells #[.int .i64 10, .slice (some ⟨w.heap.size, 0, none⟩) 2 2] 24)
  rw [World.size_alloc] at hYb
  obtain ⟨Y, hY⟩ : ∃ Y, ((w.alloc (.cells #[.int .i64 6, .int .i64 2, .int .i64 5, .int .i64 2] 46)).alloc (.cells #[.int .i64 10, .slice (some ⟨w.heap.size, 0, none⟩) 2 2] 24)) = Y := ⟨_, rfl⟩
  rw [hY] at hYB hYi hYb ⊢
  clear hY
  obtain ⟨s0, s1⟩ := z26q hYb
  have HC0 := Aside0.mk (C_items2 hYi)
  have HYB := Aside0.mk hYB
  have HYb := Aside0.mk hYb
  clear hYi hYB hYb
  have hS0 : Below Y.heap.size Y Y.drew := (Below.refl _ Y).drew
  refine wpIn_region_held (fun w' => BelowS Y w') hmx ?_
  show wpAnyHIn _ _ _ _ _ _ _ 10 #[false, false, false, false, false, false, false, false, false, false] _ _
  obtain ⟨Y0, hY0⟩ : ∃ V, Y.drew = V := ⟨_, rfl⟩
  rw [hY0] at hS0 ⊢
  clear hY0
  refine z12q (i := 0) (v := .agg #[.int .i64 10, .slice (some ⟨w.heap.size, 0, none⟩) 2 2]) (dst := 9) (by kernel_rfl) rfl rfl (by kernel_rfl) (by kernel_rfl) (by kernel_rfl) (fun _ _ _ h => h) ⟨Or.inl ⟨by rfl, fun w' hw' => ?_⟩, fun _ => rfl⟩ hS0 ?_
  · (have gg0 := z15q hw' s0; have gg1 := z15q hw' s1; go_simp)
  simp only [sT_]
  refine wpAnyHIn_two (i := 1) (j := 7) (by kernel_rfl) rfl rfl (fun K hK => ?oa) (fun K hK => ?ob)
  case' oa =>
    go_simp
    have hb1 : Below Y.heap.size Y (Y0.alloc (.cells #[.int .i64 5, .int .i64 3] 3)) := hS0.alloc hS0.size _
    have hn1 : (Y0.alloc (.cells #[.int .i64 5, .int .i64 3] 3)).heap[Y0.heap.size]? = some (.cells #[.int .i64 5, .int .i64 3] 3 (0, 0)) := World.alloc_heap_new Y0 _
    obtain ⟨w1, hW1⟩ : ∃ V, (Y0.alloc (.cells #[.int .i64 5, .int .i64 3] 3)) = V := ⟨_, rfl⟩
    rw [hW1] at hb1 hn1 ⊢
    clear hW1
    refine hK _ _ hb1 ?_
    clear hK K
    simp only [sT_]
    refine wpAnyHIn_two (i := 2) (j := 7) (by kernel_rfl) rfl rfl (fun K hK => ?oaa) (fun K hK => ?oab)
    case' oaa =>
      go_simp
      refine ⟨trivial, ?_⟩
      refine (callsIn_wide.2 (vec_Ints.calls 100 (some ⟨Y0.heap.size, 0, none⟩) 2 [5, 3] ls w1 (C_lit2 hn1) (by decide) HINT.out)).mono ?_
      rintro e wi2 ⟨v_, rfl, hv, hb⟩
      obtain ⟨Ai, ci, rfl, hli, hCi⟩ := Kd.S_reads hv
      have hb2 : Below Y.heap.size Y wi2 := hb1.trans (hb.mono hb1.size)
      clear hv hb
      refine hK _ _ hb2 ?_
      clear hK K
      simp only [sT_]
      refine wpAnyHIn_two (i := 3) (j := 7) (by kernel_rfl) rfl rfl (fun K hK => ?oaaa) (fun K hK => ?oaab)
      case' oaaa =>
        go_simp
        refine ⟨trivial, ?_⟩
        refine (callsIn_wide.2 (knap_Best.calls 10 (some ⟨w.heap.size, 0, none⟩) 2 [⟨6, 2⟩, ⟨5, 2⟩] Ai ci ls q0 q1 q2 [0, 2] 0 wi2 (Kd.C_below HC0.out hb2) (by decide) hCi hli HBEST.out)).mono ?_
        rintro e we ⟨v1, v2, v3, rfl, hv1, hv2, hv3, hb⟩
        obtain ⟨E1, ec1, rfl, -, -⟩ := Kd.R_reads hv1
        obtain ⟨E2, ec2, rfl, -, -⟩ := Kd.R_reads hv2
        obtain ⟨E3, ec3, rfl, -, -⟩ := Kd.R_reads hv3
        have hb3 : Below Y.heap.size Y we := hb2.trans (hb.mono hb2.size)
        have hr3 : Rows3 we (.slice E1 q1.length ec1) (.slice E2 q2.length ec2) (.slice E3 2 ec3) q1 q2 [0, 2] := ⟨_, _, _, _, hv1, hv2, hv3⟩
        clear hv1 hv2 hv3 hb
        refine hK _ _ hb3 ?_
        clear hK K
        simp only [sT_]
        refine z12q (i := 4) (v := .tuple #[.agg #[.bool q0, .slice E1 q1.length ec1, .slice E2 q2.length ec2, .slice E3 2 ec3], .int .i64 0]) (dst := 8) (by kernel_rfl) rfl rfl (by kernel_rfl) (by kernel_rfl) (by kernel_rfl) (fun _ _ _ h => h) ⟨Or.inl ⟨by rfl, fun w' hw' => ?_⟩, fun _ => rfl⟩ hb3 ?_
        · (go_simp)
        simp only [sT_]
        refine z12q (i := 5) (v := .agg #[.bool q0, .slice E1 q1.length ec1, .slice E2 q2.length ec2, .slice E3 2 ec3]) (dst := 13) (by kernel_rfl) rfl rfl (by kernel_rfl) (by kernel_rfl) (by kernel_rfl) (fun _ _ _ h => h) ⟨Or.inl ⟨by rfl, fun w' hw' => ?_⟩, fun _ => rfl⟩ hb3 ?_
        · (go_simp)
        simp only [sT_]
        refine z12q (i := 6) (v := .int .i64 0) (dst := 14) (by kernel_rfl) rfl rfl (by kernel_rfl) (by kernel_rfl) (by kernel_rfl) (fun _ _ _ h => h) ⟨Or.inl ⟨by rfl, fun w' hw' => ?_⟩, fun _ => rfl⟩ hb3 ?_
        · (go_simp)
        simp only [sT_]
        refine z20q (i := 7) (by kernel_rfl) rfl (fun K hK => ?_)
        go_simp
        have hb4 : Below Y.heap.size Y (we.alloc (.cells #[.bool false, .slice none 0 0, .slice none 0 0, .slice none 0 0] 41)) := hb3.alloc hb3.size _
        have hn4 : (we.alloc (.cells #[.bool false, .slice none 0 0, .slice none 0 0, .slice none 0 0] 41)).heap[we.heap.size]? = some (.cells #[.bool false, .slice none 0 0, .slice none 0 0, .slice none 0 0] 41 (0, 0)) := World.alloc_heap_new we _
        have hr4 := Rows3.below hr3 ((Below.refl _ we).alloc (Nat.le_refl _) (.cells #[.bool false, .slice none 0 0, .slice none 0 0, .slice none 0 0] 41))
        obtain ⟨w4, hW4⟩ : ∃ V, (we.alloc (.cells #[.bool false, .slice none 0 0, .slice none 0 0, .slice none 0 0] 41)) = V := ⟨_, rfl⟩
        rw [hW4] at hb4 hn4 hr4 ⊢
        clear hW4
        refine hK _ _ hb4 ?_
        clear hK K
        simp only [sT_]
        have hX0 : Y.heap.size ≤ we.heap.size := hb3.size
        obtain ⟨X, hXe⟩ : ∃ X, we.heap.size = X := ⟨_, rfl⟩
        obtain ⟨Z, hZe⟩ : ∃ Z, w4 = Z := ⟨_, rfl⟩
        have HZ : Aside0 (Below Y.heap.size Y Z ∧ Z.heap[X]? = some (.cells #[.bool false, .slice none 0 0, .slice none 0 0, .slice none 0 0] 41 (0, 0)) ∧ Rows3 Z (.slice E1 q1.length ec1) (.slice E2 q2.length ec2) (.slice E3 2 ec3) q1 q2 [0, 2] ∧ Y.heap.size ≤ X) := ⟨by rw [← hZe]; exact hb4, by rw [← hXe, ← hZe]; exact hn4, by rw [← hZe]; exact hr4, by rw [← hXe]; exact hX0⟩
        rw [hXe, hZe]
        clear hXe hZe hX0 hb4 hn4 hr4
      case' oaab =>
        go_simp
        have hb5 : Below Y.heap.size Y (wi2.alloc (.cells #[.bool false, .slice none 0 0, .slice none 0 0, .slice none 0 0] 41)) := hb2.alloc hb2.size _
        have hn5 : (wi2.alloc (.cells #[.bool false, .slice none 0 0, .slice none 0 0, .slice none 0 0] 41)).heap[wi2.heap.size]? = some (.cells #[.bool false, .slice none 0 0, .slice none 0 0, .slice none 0 0] 41 (0, 0)) := World.alloc_heap_new wi2 _
        have hi5 := Kd.C_below hCi ((Below.refl _ wi2).alloc (Nat.le_refl _) (.cells #[.bool false, .slice none 0 0, .slice none 0 0, .slice none 0 0] 41))
        obtain ⟨w5, hW5⟩ : ∃ V, (wi2.alloc (.cells #[.bool false, .slice none 0 0, .slice none 0 0, .slice none 0 0] 41)) = V := ⟨_, rfl⟩
        rw [hW5] at hb5 hn5 hi5 ⊢
        clear hW5
        refine hK _ _ hb5 ?_
        clear hK K
        simp only [sT_]
        refine z20q (i := 3) (by kernel_rfl) rfl (fun K hK => ?_)
        go_simp
        refine ⟨trivial, ?_⟩
        refine (callsIn_wide.2 (knap_Best.calls 10 (some ⟨w.heap.size, 0, none⟩) 2 [⟨6, 2⟩, ⟨5, 2⟩] Ai ci ls q0 q1 q2 [0, 2] 0 w5 (Kd.C_below HC0.out hb5) (by decide) hi5 hli HBEST.out)).mono ?_
        rintro e we ⟨v1, v2, v3, rfl, hv1, hv2, hv3, hb⟩
        obtain ⟨E1, ec1, rfl, -, -⟩ := Kd.R_reads hv1
        obtain ⟨E2, ec2, rfl, -, -⟩ := Kd.R_reads hv2
        obtain ⟨E3, ec3, rfl, -, -⟩ := Kd.R_reads hv3
        have hb6 : Below Y.heap.size Y we := hb5.trans (hb.mono hb5.size)
        have hr6 : Rows3 we (.slice E1 q1.length ec1) (.slice E2 q2.length ec2) (.slice E3 2 ec3) q1 q2 [0, 2] := ⟨_, _, _, _, hv1, hv2, hv3⟩
        have hx6 := z09q hn5 hb
        clear hv1 hv2 hv3 hb
        refine hK _ _ hb6 ?_
        clear hK K
        simp only [sT_]
        refine z12q (i := 4) (v := .tuple #[.agg #[.bool q0, .slice E1 q1.length ec1, .slice E2 q2.length ec2, .slice E3 2 ec3], .int .i64 0]) (dst := 8) (by kernel_rfl) rfl rfl (by kernel_rfl) (by kernel_rfl) (by kernel_rfl) (fun _ _ _ h => h) ⟨Or.inl ⟨by rfl, fun w' hw' => ?_⟩, fun _ => rfl⟩ hb6 ?_
        · (go_simp)
        simp only [sT_]
        refine z12q (i := 5) (v := .agg #[.bool q0, .slice E1 q1.length ec1, .slice E2 q2.length ec2, .slice E3 2 ec3]) (dst := 13) (by kernel_rfl) rfl rfl (by kernel_rfl) (by kernel_rfl) (by kernel_rfl) (fun _ _ _ h => h) ⟨Or.inl ⟨by rfl, fun w' hw' => ?_⟩, fun _ => rfl⟩ hb6 ?_
        · (go_simp)
        simp only [sT_]
        refine z12q (i := 6) (v := .int .i64 0) (dst := 14) (by kernel_rfl) rfl rfl (by kernel_rfl) (by kernel_rfl) (by kernel_rfl) (fun _ _ _ h => h) ⟨Or.inl ⟨by rfl, fun w' hw' => ?_⟩, fun _ => rfl⟩ hb6 ?_
        · (go_simp)
        simp only [sT_]
        have hX0 : Y.heap.size ≤ wi2.heap.size := hb2.size
        obtain ⟨X, hXe⟩ : ∃ X, wi2.heap.size = X := ⟨_, rfl⟩
        obtain ⟨Z, hZe⟩ : ∃ Z, we = Z := ⟨_, rfl⟩
        have HZ : Aside0 (Below Y.heap.size Y Z ∧ Z.heap[X]? = some (.cells #[.bool false, .slice none 0 0, .slice none 0 0, .slice none 0 0] 41 (0, 0)) ∧ Rows3 Z (.slice E1 q1.length ec1) (.slice E2 q2.length ec2) (.slice E3 2 ec3) q1 q2 [0, 2] ∧ Y.heap.size ≤ X) := ⟨by rw [← hZe]; exact hb6, by rw [← hXe, ← hZe]; exact hx6, by rw [← hZe]; exact hr6, by rw [← hXe]; exact hX0⟩
        rw [hXe, hZe]
        clear hXe hZe hX0 hb6 hx6 hr6
    case' oab =>
      go_simp
      have hb7 : Below Y.heap.size Y (w1.alloc (.cells #[.bool false, .slice none 0 0, .slice none 0 0, .slice none 0 0] 41)) := hb1.alloc hb1.size _
      have hn7 : (w1.alloc (.cells #[.bool false, .slice none 0 0, .slice none 0 0, .slice none 0 0] 41)).heap[w1.heap.size]? = some (.cells #[.bool false, .slice none 0 0, .slice none 0 0, .slice none 0 0] 41 (0, 0)) := World.alloc_heap_new w1 _
      have hl7 := z05q hn1 (.cells #[.bool false, .slice none 0 0, .slice none 0 0, .slice none 0 0] 41)
      obtain ⟨w7, hW7⟩ : ∃ V, (w1.alloc (.cells #[.bool false, .slice none 0 0, .slice none 0 0, .slice none 0 0] 41)) = V := ⟨_, rfl⟩
      rw [hW7] at hb7 hn7 hl7 ⊢
      clear hW7
      refine hK _ _ hb7 ?_
      clear hK K
      simp only [sT_]
      refine z20q (i := 2) (by kernel_rfl) rfl (fun K hK => ?_)
      go_simp
      refine ⟨trivial, ?_⟩
      refine (callsIn_wide.2 (vec_Ints.calls 100 (some ⟨Y0.heap.size, 0, none⟩) 2 [5, 3] ls w7 (C_lit2 hl7) (by decide) HINT.out)).mono ?_
      rintro e wi8 ⟨v_, rfl, hv, hb⟩
      obtain ⟨Ai, ci, rfl, hli, hCi⟩ := Kd.S_reads hv
      have hb8 : Below Y.heap.size Y wi8 := hb7.trans (hb.mono hb7.size)
      have hx8 := z09q hn7 hb
      clear hv hb
      refine hK _ _ hb8 ?_
      clear hK K
      simp only [sT_]
      refine z20q (i := 3) (by kernel_rfl) rfl (fun K hK => ?_)
      go_simp
      refine ⟨trivial, ?_⟩
      refine (callsIn_wide.2 (knap_Best.calls 10 (some ⟨w.heap.size, 0, none⟩) 2 [⟨6, 2⟩, ⟨5, 2⟩] Ai ci ls q0 q1 q2 [0, 2] 0 wi8 (Kd.C_below HC0.out hb8) (by decide) hCi hli HBEST.out)).mono ?_
      rintro e we ⟨v1, v2, v3, rfl, hv1, hv2, hv3, hb⟩
      obtain ⟨E1, ec1, rfl, -, -⟩ := Kd.R_reads hv1
      obtain ⟨E2, ec2, rfl, -, -⟩ := Kd.R_reads hv2
      obtain ⟨E3, ec3, rfl, -, -⟩ := Kd.R_reads hv3
      have hb9 : Below Y.heap.size Y we := hb8.trans (hb.mono hb8.size)
      have hr9 : Rows3 we (.slice E1 q1.length ec1) (.slice E2 q2.length ec2) (.slice E3 2 ec3) q1 q2 [0, 2] := ⟨_, _, _, _, hv1, hv2, hv3⟩
      have hx9 := z09q hx8 hb
      clear hv1 hv2 hv3 hb
      refine hK _ _ hb9 ?_
      clear hK K
      simp only [sT_]
      refine z12q (i := 4) (v := .tuple #[.agg #[.bool q0, .slice E1 q1.length ec1, .slice E2 q2.length ec2, .slice E3 2 ec3], .int .i64 0]) (dst := 8) (by kernel_rfl) rfl rfl (by kernel_rfl) (by kernel_rfl) (by kernel_rfl) (fun _ _ _ h => h) ⟨Or.inl ⟨by rfl, fun w' hw' => ?_⟩, fun _ => rfl⟩ hb9 ?_
      · (go_simp)
      simp only [sT_]
      refine z12q (i := 5) (v := .agg #[.bool q0, .slice E1 q1.length ec1, .slice E2 q2.length ec2, .slice E3 2 ec3]) (dst := 13) (by kernel_rfl) rfl rfl (by kernel_rfl) (by kernel_rfl) (by kernel_rfl) (fun _ _ _ h => h) ⟨Or.inl ⟨by rfl, fun w' hw' => ?_⟩, fun _ => rfl⟩ hb9 ?_
      · (go_simp)
      simp only [sT_]
      refine z12q (i := 6) (v := .int .i64 0) (dst := 14) (by kernel_rfl) rfl rfl (by kernel_rfl) (by kernel_rfl) (by kernel_rfl) (fun _ _ _ h => h) ⟨Or.inl ⟨by rfl, fun w' hw' => ?_⟩, fun _ => rfl⟩ hb9 ?_
      · (go_simp)
      simp only [sT_]
      have hX0 : Y.heap.size ≤ w1.heap.size := hb1.size
      obtain ⟨X, hXe⟩ : ∃ X, w1.heap.size = X := ⟨_, rfl⟩
      obtain ⟨Z, hZe⟩ : ∃ Z, we = Z := ⟨_, rfl⟩
      have HZ : Aside0 (Below Y.heap.size Y Z ∧ Z.heap[X]? = some (.cells #[.bool false, .slice none 0 0, .slice none 0 0, .slice none 0 0] 41 (0, 0)) ∧ Rows3 Z (.slice E1 q1.length ec1) (.slice E2 q2.length ec2) (.slice E3 2 ec3) q1 q2 [0, 2] ∧ Y.heap.size ≤ X) := ⟨by rw [← hZe]; exact hb9, by rw [← hXe, ← hZe]; exact hx9, by rw [← hZe]; exact hr9, by rw [← hXe]; exact hX0⟩
      rw [hXe, hZe]
      clear hXe hZe hX0 hb9 hx9 hr9
  case' ob =>
    go_simp
    have hb10 : Below Y.heap.size Y (Y0.alloc (.cells #[.bool false, .slice none 0 0, .slice none 0 0, .slice none 0 0] 41)) := hS0.alloc hS0.size _
    have hn10 : (Y0.alloc (.cells #[.bool false, .slice none 0 0, .slice none 0 0, .slice none 0 0] 41)).heap[Y0.heap.size]? = some (.cells #[.bool false, .slice none 0 0, .slice none 0 0, .slice none 0 0] 41 (0, 0)) := World.alloc_heap_new Y0 _
    obtain ⟨w10, hW10⟩ : ∃ V, (Y0.alloc (.cells #[.bool false, .slice none 0 0, .slice none 0 0, .slice none 0 0] 41)) = V := ⟨_, rfl⟩
    rw [hW10] at hb10 hn10 ⊢
    clear hW10
    refine hK _ _ hb10 ?_
    clear hK K
    simp only [sT_]
    refine z20q (i := 1) (by kernel_rfl) rfl (fun K hK => ?_)
    go_simp
    have hb11 : Below Y.heap.size Y (w10.alloc (.cells #[.int .i64 5, .int .i64 3] 3)) := hb10.alloc hb10.size _
    have hn11 : (w10.alloc (.cells #[.int .i64 5, .int .i64 3] 3)).heap[w10.heap.size]? = some (.cells #[.int .i64 5, .int .i64 3] 3 (0, 0)) := World.alloc_heap_new w10 _
    have hx11 := z05q hn10 (.cells #[.int .i64 5, .int .i64 3] 3)
    obtain ⟨w11, hW11⟩ : ∃ V, (w10.alloc (.cells #[.int .i64 5, .int .i64 3] 3)) = V := ⟨_, rfl⟩
    rw [hW11] at hb11 hn11 hx11 ⊢
    clear hW11
    refine hK _ _ hb11 ?_
    clear hK K
    simp only [sT_]
    refine z20q (i := 2) (by kernel_rfl) rfl (fun K hK => ?_)
    go_simp
    refine ⟨trivial, ?_⟩
    refine (callsIn_wide.2 (vec_Ints.calls 100 (some ⟨w10.heap.size, 0, none⟩) 2 [5, 3] ls w11 (C_lit2 hn11) (by decide) HINT.out)).mono ?_
    rintro e wi12 ⟨v_, rfl, hv, hb⟩
    obtain ⟨Ai, ci, rfl, hli, hCi⟩ := Kd.S_reads hv
    have hb12 : Below Y.heap.size Y wi12 := hb11.trans (hb.mono hb11.size)
    have hx12 := z09q hx11 hb
    clear hv hb
    refine hK _ _ hb12 ?_
    clear hK K
    simp only [sT_]
    refine z20q (i := 3) (by kernel_rfl) rfl (fun K hK => ?_)
    go_simp
    refine ⟨trivial, ?_⟩
    refine (callsIn_wide.2 (knap_Best.calls 10 (some ⟨w.heap.size, 0, none⟩) 2 [⟨6, 2⟩, ⟨5, 2⟩] Ai ci ls q0 q1 q2 [0, 2] 0 wi12 (Kd.C_below HC0.out hb12) (by decide) hCi hli HBEST.out)).mono ?_
    rintro e we ⟨v1, v2, v3, rfl, hv1, hv2, hv3, hb⟩
    obtain ⟨E1, ec1, rfl, -, -⟩ := Kd.R_reads hv1
    obtain ⟨E2, ec2, rfl, -, -⟩ := Kd.R_reads hv2
    obtain ⟨E3, ec3, rfl, -, -⟩ := Kd.R_reads hv3
    have hb13 : Below Y.heap.size Y we := hb12.trans (hb.mono hb12.size)
    have hr13 : Rows3 we (.slice E1 q1.length ec1) (.slice E2 q2.length ec2) (.slice E3 2 ec3) q1 q2 [0, 2] := ⟨_, _, _, _, hv1, hv2, hv3⟩
    have hx13 := z09q hx12 hb
    clear hv1 hv2 hv3 hb
    refine hK _ _ hb13 ?_
    clear hK K
    simp only [sT_]
    refine z12q (i := 4) (v := .tuple #[.agg #[.bool q0, .slice E1 q1.length ec1, .slice E2 q2.length ec2, .slice E3 2 ec3], .int .i64 0]) (dst := 8) (by kernel_rfl) rfl rfl (by kernel_rfl) (by kernel_rfl) (by kernel_rfl) (fun _ _ _ h => h) ⟨Or.inl ⟨by rfl, fun w' hw' => ?_⟩, fun _ => rfl⟩ hb13 ?_
    · (go_simp)
    simp only [sT_]
    refine z12q (i := 5) (v := .agg #[.bool q0, .slice E1 q1.length ec1, .slice E2 q2.length ec2, .slice E3 2 ec3]) (dst := 13) (by kernel_rfl) rfl rfl (by kernel_rfl) (by kernel_rfl) (by kernel_rfl) (fun _ _ _ h => h) ⟨Or.inl ⟨by rfl, fun w' hw' => ?_⟩, fun _ => rfl⟩ hb13 ?_
    · (go_simp)
    simp only [sT_]
    refine z12q (i := 6) (v := .int .i64 0) (dst := 14) (by kernel_rfl) rfl rfl (by kernel_rfl) (by kernel_rfl) (by kernel_rfl) (fun _ _ _ h => h) ⟨Or.inl ⟨by rfl, fun w' hw' => ?_⟩, fun _ => rfl⟩ hb13 ?_
    · (go_simp)
    simp only [sT_]
    have hX0 : Y.heap.size ≤ Y0.heap.size := hS0.size
    obtain ⟨X, hXe⟩ : ∃ X, Y0.heap.size = X := ⟨_, rfl⟩
    obtain ⟨Z, hZe⟩ : ∃ Z, we = Z := ⟨_, rfl⟩
    have HZ : Aside0 (Below Y.heap.size Y Z ∧ Z.heap[X]? = some (.cells #[.bool false, .slice none 0 0, .slice none 0 0, .slice none 0 0] 41 (0, 0)) ∧ Rows3 Z (.slice E1 q1.length ec1) (.slice E2 q2.length ec2) (.slice E3 2 ec3) q1 q2 [0, 2] ∧ Y.heap.size ≤ X) := ⟨by rw [← hZe]; exact hb13, by rw [← hXe, ← hZe]; exact hx13, by rw [← hZe]; exact hr13, by rw [← hXe]; exact hX0⟩
    rw [hXe, hZe]
    clear hXe hZe hX0 hb13 hx13 hr13
  all_goals
    obtain ⟨g0, g1, g2, g3, f0, f1, f2, f3⟩ := box4_cells HZ.out.2.1
    refine z20q (i := 8) (by kernel_rfl) rfl (fun K hK => ?_)
    go_simp
    have hSf : Below Y.heap.size Y (set4 Z X (.bool q0) (.slice E1 q1.length ec1) (.slice E2 q2.length ec2) (.slice E3 2 ec3)) := set4_below HZ.out.2.2.2 HZ.out.1 _ _ _ _
    have hXf := set4_heap HZ.out.2.1 (.bool q0) (.slice E1 q1.length ec1) (.slice E2 q2.length ec2) (.slice E3 2 ec3)
    have hRf := Rows3.set4 HZ.out.2.2.1 HZ.out.2.1 (.bool q0) (.slice E1 q1.length ec1) (.slice E2 q2.length ec2) (.slice E3 2 ec3)
    obtain ⟨F, hF⟩ : ∃ F, set4 Z X (.bool q0) (.slice E1 q1.length ec1) (.slice E2 q2.length ec2) (.slice E3 2 ec3) = F := ⟨_, rfl⟩
    rw [hF] at hSf hXf hRf
    unfold set4 at hF
    rw [hF]
    clear hF g0 g1 g2 g3 f0 f1 f2 f3
    refine hK _ _ hSf ?_
    clear hK K
    simp only [sT_]
    refine z12q (i := 9) (v := .int .i64 0) (dst := 3) (by kernel_rfl) rfl rfl (by kernel_rfl) (by kernel_rfl) (by kernel_rfl) (fun _ _ _ h => h) ⟨Or.inl ⟨by rfl, fun w' hw' => ?_⟩, fun _ => rfl⟩ hSf ?_
    · (go_simp)
    simp only [sT_]
    refine wpAnyHIn_done (by kernel_rfl) ?_
    obtain ⟨⟨-, hec1, hC1⟩, ⟨-, hec2, hC2⟩, ⟨-, hec3, hC3⟩⟩ := Rows3.reads hRf
    obtain ⟨ad, rfl, hcl⟩ := Kd.at_int hC3 1 (by decide) (by decide)
    replace hcl : F.cell? ⟨ad.block, ad.off + 1, none⟩ = some (.int .i64 2) := hcl
    have HF := Aside0.mk (AwF.mk' hSf hXf hC1 hC2 hC3 hcl)
    have HE := Aside0.mk (And.intro hec1 (And.intro hec2 hec3))
    have hsz : w.heap.size ≤ Y.heap.size := HYB.out.size
    clear hSf hXf hRf hC1 hC2 hC3 hcl hec1 hec2 hec3 hS0 HZ
    obtain ⟨g0, g1, g2, g3⟩ := HF.out.cells
    have gc := HF.out.2.2.2.2.2
    have b0 := z15q HF.out.1 s0
    have b1 := z15q HF.out.1 s1
    gi_wp2_with (first
      | (refine ⟨trivial, ?_⟩; gi_at_call 16; refine (callsIn_wide.2 (rat_Text.calls 100 q0 E1 ec1 q1 E2 ec2 q2 ⟨#[54]⟩ F HF.out.2.2.1 HE.out.1 HF.out.2.2.2.1 HE.out.2.1 HTEXT.out)).mono ?_; rintro e wa ⟨rfl, hba⟩; have HA := Aside0.mk (HF.out.below hba); clear g0 g1 g2 g3 gc b0 b1 hba; obtain ⟨g0, g1, g2, g3⟩ := HA.out.cells; have gc := HA.out.2.2.2.2.2; have b0 := z15q HA.out.1 s0; have b1 := z15q HA.out.1 s1)
      | (refine ⟨trivial, ?_⟩; gi_at_call 14; refine (callsIn_wide.2 (knap_Fits.calls 100 10 (some ⟨w.heap.size, 0, none⟩) 2 [⟨6, 2⟩, ⟨5, 2⟩] (some ad) ec3 [0, 2] true wa (Kd.C_below HC0.out HA.out.1) (by decide) HA.out.2.2.2.2.1 HE.out.2.2 HFITS.out)).mono ?_; rintro e wb ⟨rfl, hbb⟩; have HB := Aside0.mk (HA.out.below hbb); clear g0 g1 g2 g3 gc b0 b1 hbb; obtain ⟨g0, g1, g2, g3⟩ := HB.out.cells; have gc := HB.out.2.2.2.2.2; have b0 := z15q HB.out.1 s0; have b1 := z15q HB.out.1 s1)
      | (refine ⟨trivial, ?_⟩; gi_at_call 17; refine (callsIn_wide.2 (knap_Use.calls 100 10 (some ⟨w.heap.size, 0, none⟩) 2 [⟨6, 2⟩, ⟨5, 2⟩] (some ad) ec3 [0, 2] 10 wb (Kd.C_below HC0.out HB.out.1) (by decide) HB.out.2.2.2.2.1 HE.out.2.2 HUSE.out)).mono ?_; rintro e wc ⟨rfl, hbc⟩; have HD := Aside0.mk (HB.out.below hbc); clear g0 g1 g2 g3 gc b0 b1 hbc))
    exact ⟨.bool true, by first | (go_simp; done) | kernel_rfl, rfl, HYB.out.trans (HD.out.1.mono hsz)⟩
end
mutual
def offcutlaw16_KnapMany.j0 : Nat → Int → Int → Bool → Option (Bool)
  | 0, _, _, _ => none
  | k + 1, x0, x1, x20 => if x20 = true then ((offcutlaw16_awake.f k).bind fun t339 => (some t339)) else ((vec_Ints.f k (([1] : List Int))).bind fun t346 => ((knap_Best.f x0 (([(⟨1, x1⟩ : S46)] : List (S46))) t346).bind fun bt349 => (if x0 > 512 then (offcutlaw16_KnapMany.j1 k x0 x1 bt349.2.2.2.2 true bt349.1 bt349.2.1 bt349.2.2.1 bt349.2.2.2.1) else (offcutlaw16_KnapMany.j1 k x0 x1 bt349.2.2.2.2 (decide (x1 > 64)) bt349.1 bt349.2.1 bt349.2.2.1 bt349.2.2.2.1))))
def offcutlaw16_KnapMany.j1 : Nat → Int → Int → Int → Bool → Bool → List Int → List Int → List Int → Option (Bool)
  | 0, _, _, _, _, _, _, _, _ => none
  | k + 1, x0, x1, x6, x38, x361000, x361001, x361002, x361003 => if x38 = true then (if (x361003.length : Int) = 0 then (if x6 = 4 then ((offcutlaw16_awake.f k).bind fun t361 => (some t361)) else (some false)) else (some false)) else (if x6 = 0 then (if (x361003.length : Int) = 1 then (if 0 < (x361003.length : Int) then (if (rd x361003 0) = (mn x0 x1) then ((offcutlaw16_awake.f k).bind fun t363 => (some t363)) else (some false)) else (none)) else (some false)) else (some false))
end
def offcutlaw16_KnapMany.f (k : Nat) (a0 : Int) (a1 : Int) : Option (Bool) := if a0 < 1 then (offcutlaw16_KnapMany.j0 k a0 a1 true) else (if a0 > 1048576 then (offcutlaw16_KnapMany.j0 k a0 a1 true) else (if a1 < 0 then (offcutlaw16_KnapMany.j0 k a0 a1 true) else (offcutlaw16_KnapMany.j0 k a0 a1 (decide (a1 > 1024)))))
theorem offcutlaw16_KnapMany.mono_l : ∀ k, (∀ y0 y1 y2, LeO (offcutlaw16_KnapMany.j0 k y0 y1 y2) (offcutlaw16_KnapMany.j0 (k + 1) y0 y1 y2)) ∧ (∀ y0 y1 y2 y3 y4 y5 y6 y7, LeO (offcutlaw16_KnapMany.j1 k y0 y1 y2 y3 y4 y5 y6 y7) (offcutlaw16_KnapMany.j1 (k + 1) y0 y1 y2 y3 y4 y5 y6 y7))
  | 0 => ⟨fun _ _ _ r h => by simp [offcutlaw16_KnapMany.j0] at h, fun _ _ _ _ _ _ _ _ r h => by simp [offcutlaw16_KnapMany.j1] at h⟩
  | k + 1 => by
    obtain ⟨ih0, ih1⟩ := offcutlaw16_KnapMany.mono_l k
    refine ⟨?_, ?_⟩
    · intro y0 y1 y2
      unfold offcutlaw16_KnapMany.j0
      repeat' first
      | (with_reducible exact ih0 _ _ _)
      | (with_reducible exact ih1 _ _ _ _ _ _ _ _)
      | (with_reducible exact offcutlaw16_awake.mono _)
      | (with_reducible exact vec_Ints.mono _ _)
      | (with_reducible exact LeO.refl _)
      | (with_reducible exact LeO.none _)
      | (with_reducible refine LeO.ite ?_ ?_)
      | (with_reducible refine LeO.bind ?_ (fun _ => ?_))
      | exact ih0 _ _ _
      | exact ih1 _ _ _ _ _ _ _ _
      | exact offcutlaw16_awake.mono _
      | exact vec_Ints.mono _ _
      | exact LeO.none _
      | refine LeO.ite ?_ ?_
      | refine LeO.bind ?_ (fun _ => ?_)
    · intro y0 y1 y2 y3 y4 y5 y6 y7
      unfold offcutlaw16_KnapMany.j1
      repeat' first
      | (with_reducible exact ih0 _ _ _)
      | (with_reducible exact ih1 _ _ _ _ _ _ _ _)
      | (with_reducible exact offcutlaw16_awake.mono _)
      | (with_reducible exact vec_Ints.mono _ _)
      | (with_reducible exact LeO.refl _)
      | (with_reducible exact LeO.none _)
      | (with_reducible refine LeO.ite ?_ ?_)
      | (with_reducible refine LeO.bind ?_ (fun _ => ?_))
      | exact ih0 _ _ _
      | exact ih1 _ _ _ _ _ _ _ _
      | exact offcutlaw16_awake.mono _
      | exact vec_Ints.mono _ _
      | exact LeO.none _
      | refine LeO.ite ?_ ?_
      | refine LeO.bind ?_ (fun _ => ?_)
theorem offcutlaw16_KnapMany.mono : ∀ a0 a1 k, LeO (offcutlaw16_KnapMany.f k a0 a1) (offcutlaw16_KnapMany.f (k + 1) a0 a1) := by
  intro a0 a1 k
  obtain ⟨ih0, ih1⟩ := offcutlaw16_KnapMany.mono_l k
  unfold offcutlaw16_KnapMany.f
  repeat' first
      | (with_reducible exact ih0 _ _ _)
      | (with_reducible exact ih1 _ _ _ _ _ _ _ _)
      | (with_reducible exact offcutlaw16_awake.mono _)
      | (with_reducible exact vec_Ints.mono _ _)
      | (with_reducible exact LeO.refl _)
      | (with_reducible exact LeO.none _)
      | (with_reducible refine LeO.ite ?_ ?_)
      | (with_reducible refine LeO.bind ?_ (fun _ => ?_))
      | exact ih0 _ _ _
      | exact ih1 _ _ _ _ _ _ _ _
      | exact offcutlaw16_awake.mono _
      | exact vec_Ints.mono _ _
      | exact LeO.none _
      | refine LeO.ite ?_ ?_
      | refine LeO.bind ?_ (fun _ => ?_)
def offcutlaw16_KnapMany.Pure : Prop := ∀ (a0 : Int) (a1 : Int), (Lit.int .i64 a0).wf = true → (Lit.int .i64 a1).wf = true → ∃ k, offcutlaw16_KnapMany.f k a0 a1 = some true
end Go.Proofs.Ytgnffmbaecabnaa.M
