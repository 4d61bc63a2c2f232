-- Printed by a program of this session's own (wip/myprint.py), out of the kit's print with functions given by hand. Lean checks it.
import Derived.Test.YtgnffmbaecabnaaM0
import Derived.Test.YtgnffmbaecabnaaM8
namespace Go.Proofs.Ytgnffmbaecabnaa.M
open Go.RowKit Go.Shelf Go.Proofs.YtgnffmbaecabnaaW.PrintWords Go.Proofs.YtgnffmbaecabnaaW.PrintLast Go.Proofs.YtgnffmbaecabnaaW.PrintMore
attribute [local go_sem] z33q z31q max_two min_two z28q z27q z32q z30q   -- for this text's walks alone
set_option linter.unusedVariables false
set_option linter.unusedSimpArgs false
def knap_Worth.l0 : Nat → List (S39) → List Int → Int → Int → Bool → List Int → List Int → Option (Bool × List Int × List Int)
  | 0, _, _, _, _, _, _, _ => none
  | k + 1, x0, x1, x12, x13, x377000, x377001, x377002 => if x13 < x12 then (if 0 ≤ x13 then (if x13 < (x0.length : Int) then (if x13 < (x1.length : Int) then ((rat_Int.f k (rd x1 x13)).bind fun bt379 => ((rat_Mul.f k ((rd_T39 x0 x13).f0.f0) ((rd_T39 x0 x13).f0.f1) ((rd_T39 x0 x13).f1) bt379.1 bt379.2.1 bt379.2.2).bind fun bt386 => ((rat_Add.f k x377000 x377001 x377002 bt386.1 bt386.2.1 bt386.2.2).bind fun bt393 => (knap_Worth.l0 k x0 x1 x12 (wrap64 (x13 + 1)) bt393.1 bt393.2.1 bt393.2.2)))) else (none)) else (none)) else (none)) else (some (x377000, x377001, x377002))
def knap_Worth.f (k : Nat) (l0 : List (S39)) (l1 : List Int) : Option (Bool × List Int × List Int) := (rat_Int.f k 0).bind fun bt369 => (knap_Worth.l0 k l0 l1 (mn (l0.length : Int) (l1.length : Int)) 0 bt369.1 bt369.2.1 bt369.2.2)
theorem knap_Worth.mono_l : ∀ k, (∀ y0 y1 y2 y3 y4 y5 y6, LeO (knap_Worth.l0 k y0 y1 y2 y3 y4 y5 y6) (knap_Worth.l0 (k + 1) y0 y1 y2 y3 y4 y5 y6))
  | 0 => fun _ _ _ _ _ _ _ r h => by simp [knap_Worth.l0] at h
  | k + 1 => by
    have ih0 := knap_Worth.mono_l k
    · intro y0 y1 y2 y3 y4 y5 y6
      unfold knap_Worth.l0
      repeat' first
      | (with_reducible exact ih0 _ _ _ _ _ _ _)
      | (with_reducible exact rat_Add.mono _ _ _ _ _ _ _)
      | (with_reducible exact rat_Int.mono _ _)
      | (with_reducible exact rat_Mul.mono _ _ _ _ _ _ _)
      | (with_reducible exact LeO.refl _)
      | (with_reducible exact LeO.none _)
      | (with_reducible refine LeO.ite ?_ ?_)
      | (with_reducible refine LeO.bind ?_ (fun _ => ?_))
      | exact ih0 _ _ _ _ _ _ _
      | exact rat_Add.mono _ _ _ _ _ _ _
      | exact rat_Int.mono _ _
      | exact rat_Mul.mono _ _ _ _ _ _ _
      | exact LeO.none _
      | refine LeO.ite ?_ ?_
      | refine LeO.bind ?_ (fun _ => ?_)
theorem knap_Worth.mono : ∀ a0 a1 k, LeO (knap_Worth.f k a0 a1) (knap_Worth.f (k + 1) a0 a1) := by
  intro a0 a1 k
  have ih0 := knap_Worth.mono_l k
  unfold knap_Worth.f
  repeat' first
      | (with_reducible exact ih0 _ _ _ _ _ _ _)
      | (with_reducible exact rat_Add.mono _ _ _ _ _ _ _)
      | (with_reducible exact rat_Int.mono _ _)
      | (with_reducible exact rat_Mul.mono _ _ _ _ _ _ _)
      | (with_reducible exact LeO.refl _)
      | (with_reducible exact LeO.none _)
      | (with_reducible refine LeO.ite ?_ ?_)
      | (with_reducible refine LeO.bind ?_ (fun _ => ?_))
      | exact ih0 _ _ _ _ _ _ _
      | exact rat_Add.mono _ _ _ _ _ _ _
      | exact rat_Int.mono _ _
      | exact rat_Mul.mono _ _ _ _ _ _ _
      | exact LeO.none _
      | refine LeO.ite ?_ ?_
      | refine LeO.bind ?_ (fun _ => ?_)
def knap_Worth.T5 : Bool × List (List Nat × List Nat) := (true, [([], []), ([], []), ([], []), ([1, 2], [1, 2]), ([3], [3]), ([], []), ([], []), ([5, 6], [5, 6]), ([7], [7]), ([8], [8]), ([4, 9, 9], [4, 9]), ([0, 10, 10], [0, 10]), ([11, 11, 0, 1, 2, 3, 4, 5, 6, 7, 8, 9, 10, 11], [11])])
def knap_Worth.B5 : List Nat := [0, 0, 0, 6, 14, 0, 0, 96, 224, 480, 1022, 2047, 4095]
theorem knap_Worth.tab5 : rtab .any (opsOf Try.f15 5) = knap_Worth.T5 := by kernel_rfl
theorem knap_Worth.bits5 : waitsOk knap_Worth.T5.2 knap_Worth.B5 = true := by kernel_rfl
set_option maxHeartbeats 8000000 in
set_option maxRecDepth 100000 in
theorem knap_Worth.calls (k : Nat) (A0 : Option Addr) (c0 : Nat) (l0 : List (S39)) (A1 : Option Addr) (c1 : Nat) (l1 : List Int) (r1 : Bool) (r2 : List Int) (r3 : List Int) (w : World) (hr0 : Kd.C k39 w A0 l0.length l0) (hc0 : l0.length ≤ c0) (hr1 : Kd.C (Kd.int .i64) w A1 l1.length l1) (hc1 : l1.length ≤ c1) (h : knap_Worth.f k l0 l1 = some (r1, r2, r3)) :
    Calls Try.prog 15 #[.slice A0 l0.length c0, .slice A1 l1.length c1] w fun e w' => ∃ v1_ v2_ : Value, e = .returned (.agg #[.bool r1, v1_, v2_]) ∧ Kd.R (Kd.int .u32) 96 w' w.heap.size (fun k_ => some k_ ≠ (v2_ : Value).ownBlock) v1_ r2 ∧ Kd.R (Kd.int .u32) 96 w' w.heap.size (fun k_ => some k_ ≠ (v1_ : Value).ownBlock) v2_ r3 ∧ Below w.heap.size w w' := by
  have hu39 := Try.underlying39
  have HR0 := Aside0.mk hr0
  have HC0 := Aside0.mk hc0
  clear hr0 hc0
  have HR1 := Aside0.mk hr1
  have HC1 := Aside0.mk hc1
  clear hr1 hc1
  have HB := Aside0.mk (Below.refl w.heap.size w)
  have H : ((rat_Int.f k 0).bind fun bt369 => (knap_Worth.l0 k l0 l1 (mn (l0.length : Int) (l1.length : Int)) 0 bt369.1 bt369.2.1 bt369.2.2)) = some (r1, r2, r3) := h
  clear h
  replace H := Option.bind_eq_some_iff.mp H
  obtain ⟨⟨t369, t370, t373⟩, A30, H⟩ := H
  replace H : (knap_Worth.l0 k l0 l1 (mn (l0.length : Int) (l1.length : Int)) 0 t369 t370 t373) = some (r1, r2, r3) := H
  have A3 := Aside0.mk A30
  clear A30
  obtain ⟨ji4, hji4⟩ : ∃ j_ : Int, (mn (l0.length : Int) (l1.length : Int)) = j_ := ⟨_, rfl⟩
  replace H : (knap_Worth.l0 k l0 l1 ji4 0 t369 t370 t373) = some (r1, r2, r3) := by first | (rw [hji4] at H; exact H) | (simp only [hji4] at H ⊢; exact H)
  (try rw [hji4] at A3)
  (try (have hji4l : 0 ≤ ji4 := by (rw [← hji4]; unfold mn; (repeat' split) <;> omega)))
  (try (have hji4m : 0 ≤ ji4 := by omega))
  have hji4_ : (if (l1.length : Int) < (l0.length : Int) then (l1.length : Int) else (l0.length : Int)) = ji4 := hji4
  have hji4n : (if l1.length < l0.length then (l1.length : Int) else (l0.length : Int)) = ji4 := by simpa only [Int.ofNat_lt] using hji4_
  have H' := Aside0.mk H
  clear H
  go_enter Try.func15, Try.ntmps15
  go_wp2_with (first | ((with_reducible refine z18q (N := 4) rfl ?_); refine z17q ?hg (N := 4) ?hd (cs := #[.bool false, .slice none 0 0, .slice none 0 0]) (t := 39) ?hr ?_; (case hd => rfl); (case hg => rfl); (case hr => first | (go_simp; done) | (go_simp; rfl)); intro gb368 hg w5 hbox hb; have n0_ := Aside0.mk (z11q (by repeat (first | (with_reducible first | exact HB.out | apply z02q | apply z00q | apply z01q) | exact HB.out)) hb); have n1_ := Aside0.mk (hbox); have n2_ := Aside0.mk ((by rw [hg]; exact (z10q (by repeat (first | (with_reducible first | exact HB.out | apply z02q | apply z00q | apply z01q) | exact HB.out))) : w.heap.size ≤ gb368)); have n3_ := Aside0.mk ((by rw [hg]; exact (z10q (by repeat (first | (with_reducible first | exact HB.out | apply z02q | apply z00q | apply z01q) | exact HB.out))) : w.heap.size ≤ gb368)); clear HB; have HB := n0_; have BK368 := n1_; have GW368 := n2_; have GE368 := n3_; clear n0_ n1_ n2_ n3_; clear hb hbox hg) | ((with_reducible refine z16q (f := 21) rfl ?_); refine goesL_ (some 7) rfl rfl Try.func21 (by kernel_rfl) rfl #[.int .i64 0] rfl (by (try simp only [List.map_toArray, List.map_cons, List.map_nil]); first | done | rfl | (simp only [List.length_drop, List.length_take]; rfl)) ?_; (with_reducible refine (rat_Int.calls k 0 t369 t370 t373 _ A3.out).mono ?_); rintro e w6 ⟨v371, v374, rfl, ho0, ho1, hb⟩; refine ⟨_, rfl, ?_⟩; have n0_ := Aside0.mk (Kd.R_lower ho0 (z10q (by repeat (first | (with_reducible first | exact HB.out | apply z02q | apply z00q | apply z01q | refine z03q ?_ GE368.out) | exact HB.out)))); have n1_ := Aside0.mk (Kd.R_lower ho1 (z10q (by repeat (first | (with_reducible first | exact HB.out | apply z02q | apply z00q | apply z01q | refine z03q ?_ GE368.out) | exact HB.out)))); have n2_ := Aside0.mk (z09q (g := gb368) (o := .cells #[.bool false, .slice none 0 0, .slice none 0 0] 39 (0, 0)) (by (with_reducible repeat (first | refine z06q ?_ _ | refine z07q ?_ | refine z05q ?_ _)); exact BK368.out) hb); have n3_ := Aside0.mk (z11q (by repeat (first | (with_reducible first | exact HB.out | apply z02q | apply z00q | apply z01q | refine z03q ?_ GE368.out) | exact HB.out)) hb); clear BK368; clear HB; have HO372 := n0_; have HO375 := n1_; have BK368 := n2_; have HB := n3_; clear n0_ n1_ n2_ n3_; (try clear hb); (try clear hb2); (try clear hk); (try clear hi); (try clear ho0); (try clear ho1)) | ((with_reducible refine z18q (N := 5) rfl ?_); refine z17q ?hg (N := 5) ?hd (cs := #[.bool false, .slice none 0 0, .slice none 0 0]) (t := 39) ?hr ?_; (case hd => rfl); (case hg => rfl); (case hr => first | (go_simp; done) | (go_simp; rfl)); intro gb376 hg w7 hbox hb; have n0_ := Aside0.mk (Kd.R_below (by (with_reducible repeat (first | apply Kd.R_alloc | apply Kd.R_drewN | apply Kd.R_drew)); exact HO372.out) hb); have n1_ := Aside0.mk (Kd.R_below (by (with_reducible repeat (first | apply Kd.R_alloc | apply Kd.R_drewN | apply Kd.R_drew)); exact HO375.out) hb); have n2_ := Aside0.mk (z09q (g := gb368) (o := .cells #[.bool false, .slice none 0 0, .slice none 0 0] 39 (0, 0)) (by (with_reducible repeat (first | refine z06q ?_ _ | refine z07q ?_ | refine z05q ?_ _)); exact BK368.out) hb); have n3_ := Aside0.mk (z11q (by repeat (first | (with_reducible first | exact HB.out | apply z02q | apply z00q | apply z01q | refine z03q ?_ GE368.out) | exact HB.out)) hb); have n4_ := Aside0.mk (hbox); have n5_ := Aside0.mk ((by rw [hg]; exact (z10q (by repeat (first | (with_reducible first | exact HB.out | apply z02q | apply z00q | apply z01q | refine z03q ?_ GE368.out) | exact HB.out))) : w.heap.size ≤ gb376)); have n6_ := Aside0.mk ((by rw [hg]; exact (z10q (by repeat (first | (with_reducible first | exact HB.out | apply z02q | apply z00q | apply z01q | refine z03q ?_ GE368.out) | exact HB.out))) : w.heap.size ≤ gb376)); have n7_ := Aside0.mk ((by rw [hg]; exact Nat.ne_of_lt (blk_lt (g := gb368) (o := .cells #[.bool false, .slice none 0 0, .slice none 0 0] 39 (0, 0)) (by (with_reducible repeat (first | refine z06q ?_ _ | refine z07q ?_ | refine z05q ?_ _)); exact BK368.out)) : gb368 ≠ gb376)); have n8_ := Aside0.mk ((by rw [hg]; exact Nat.ne_of_gt (blk_lt (g := gb368) (o := .cells #[.bool false, .slice none 0 0, .slice none 0 0] 39 (0, 0)) (by (with_reducible repeat (first | refine z06q ?_ _ | refine z07q ?_ | refine z05q ?_ _)); exact BK368.out)) : gb376 ≠ gb368)); clear HO372; clear HO375; clear BK368; clear HB; have HO372 := n0_; have HO375 := n1_; have BK368 := n2_; have HB := n3_; have BK376 := n4_; have GW376 := n5_; have GE376 := n6_; have NB368_376 := n7_; have NB376_368 := n8_; clear n0_ n1_ n2_ n3_ n4_ n5_ n6_ n7_ n8_; clear hb hbox hg; have hnb8 := NB376_368.out; have hnc8 := NB368_376.out; have hcz9_0 : w7.cell? ⟨gb376, 0, none⟩ = some (.bool false) := (z04q BK376.out 0).trans rfl; have hcz9_1 : w7.cell? ⟨gb376, 1, none⟩ = some (.slice none 0 0) := (z04q BK376.out 1).trans rfl; have hcz9_2 : w7.cell? ⟨gb376, 2, none⟩ = some (.slice none 0 0) := (z04q BK376.out 2).trans rfl; have hfz9_0 := z08q BK376.out 0; have hfz9_1 := z08q BK376.out 1; have hfz9_2 := z08q BK376.out 2; obtain ⟨Ao10, co10, eo10⟩ := Kd.R_slice HO372.out; subst eo10; obtain ⟨Ao11, co11, eo11⟩ := Kd.R_slice HO375.out; subst eo11))
  go_loopg [13] k (fun kq v13 w' => ∃ (x13_1 : Int) (x377000_1 : Bool) (x377001_1 : List Int) (x377002_1 : List Int) (u377001 : Value) (u377002 : Value), v13 = .int .i64 x13_1 ∧ Aside0 (knap_Worth.l0 kq l0 l1 ji4 x13_1 x377000_1 x377001_1 x377002_1 = some (r1, r2, r3)) ∧ Aside0 (kq ≤ k) ∧ Aside0 (Kd.R (Kd.int .u32) 96 w' w.heap.size (fun k_ => some k_ ≠ (u377002 : Value).ownBlock) u377001 x377001_1) ∧ Aside0 (Kd.R (Kd.int .u32) 96 w' w.heap.size (fun k_ => some k_ ≠ (u377001 : Value).ownBlock) u377002 x377002_1) ∧ Aside0 (w'.heap[gb368]? = some (.cells #[.bool false, (.slice none 0 0), (.slice none 0 0)] 39 (0, 0))) ∧ Aside0 (w'.heap[gb376]? = some (.cells #[.bool x377000_1, u377001, u377002] 39 (0, 0))) ∧ Aside0 (Below w.heap.size w w'))
  case atStart => exact ⟨(0), (t369), (t370), (t373), (.slice Ao10 t370.length co10), (.slice Ao11 t373.length co11), (by first | rfl | (simp; done) | (simp [*]; done)), H', ⟨Nat.le_refl _⟩, ⟨by (with_reducible repeat (first | apply Kd.R_alloc | apply Kd.R_drewN | apply Kd.R_drew)); exact Kd.R_mono (Kd.R_far (p := ⟨gb376, 2, none⟩) (Kd.R_far (p := ⟨gb376, 1, none⟩) (Kd.R_far (p := ⟨gb376, 0, none⟩) (Kd.R_types HO372.out BK376.out (by decide)) (fun _ hk => hk.2) (.bool t369)) (fun _ hk => hk.2) (.slice Ao10 t370.length co10)) (fun _ hk => hk.2) (.slice Ao11 t373.length co11)) (fun _ hk => hk.1)⟩, ⟨by (with_reducible repeat (first | apply Kd.R_alloc | apply Kd.R_drewN | apply Kd.R_drew)); exact Kd.R_mono (Kd.R_far (p := ⟨gb376, 2, none⟩) (Kd.R_far (p := ⟨gb376, 1, none⟩) (Kd.R_far (p := ⟨gb376, 0, none⟩) (Kd.R_types HO375.out BK376.out (by decide)) (fun _ hk => hk.2) (.bool t369)) (fun _ hk => hk.2) (.slice Ao10 t370.length co10)) (fun _ hk => hk.2) (.slice Ao11 t373.length co11)) (fun _ hk => hk.1)⟩, ⟨by (with_reducible repeat (first | refine z06q ?_ _ | refine z07q ?_ | refine z05q ?_ _)); refine blk_far ?_ NB368_376.out _; (with_reducible repeat (first | refine z06q ?_ _ | refine z07q ?_ | refine z05q ?_ _)); refine blk_far ?_ NB368_376.out _; (with_reducible repeat (first | refine z06q ?_ _ | refine z07q ?_ | refine z05q ?_ _)); refine blk_far ?_ NB368_376.out _; (with_reducible repeat (first | refine z06q ?_ _ | refine z07q ?_ | refine z05q ?_ _)); exact BK368.out⟩, ⟨by (with_reducible repeat (first | refine z06q ?_ _ | refine z07q ?_ | refine z05q ?_ _)); refine blk_put (cs := #[.bool t369, .slice Ao10 t370.length co10, .slice none 0 0]) ?_ 2 _ rfl; (with_reducible repeat (first | refine z06q ?_ _ | refine z07q ?_ | refine z05q ?_ _)); refine blk_put (cs := #[.bool t369, .slice none 0 0, .slice none 0 0]) ?_ 1 _ rfl; (with_reducible repeat (first | refine z06q ?_ _ | refine z07q ?_ | refine z05q ?_ _)); refine blk_put (cs := #[.bool false, .slice none 0 0, .slice none 0 0]) ?_ 0 _ rfl; (with_reducible repeat (first | refine z06q ?_ _ | refine z07q ?_ | refine z05q ?_ _)); exact BK376.out⟩, ⟨by repeat (first | (with_reducible first | exact HB.out | apply z02q | apply z00q | apply z01q | refine z03q ?_ GE368.out | refine z03q ?_ GE376.out) | exact HB.out)⟩⟩
  case round =>
    clear H'
    try clear c1
    try clear c2
    try clear p2
    try clear c8
    try clear hcz9_0
    try clear hcz9_1
    try clear hcz9_2
    try clear hfz9_0
    try clear hfz9_1
    try clear hfz9_2
    obtain ⟨x13_1, x377000_1, x377001_1, x377002_1, u377001, u377002, rfl, HA, HK1, HO_377001, HO_377002, BK368, BK376, HB⟩ := hrel
    cases gk with
    | zero => exact absurd HA.out (by simp [knap_Worth.l0])
    | succ k1 =>
      have H := HA.out
      clear HA
      simp only [knap_Worth.l0] at H
      by_cases c12 : x13_1 < ji4
      · rw [if_pos c12] at H
        have c12b0 : decide (x13_1 < ji4) = true := decide_eq_true c12
        clear c12
        by_cases c13 : 0 ≤ x13_1
        · rw [if_pos c13] at H
          have c13b0 : decide (0 ≤ x13_1) = true := decide_eq_true c13
          clear c13
          by_cases c14 : x13_1 < (l0.length : Int)
          · rw [if_pos c14] at H
            have c14b0 : decide (x13_1 < (l0.length : Int)) = true := decide_eq_true c14
            clear c14
            by_cases c15 : x13_1 < (l1.length : Int)
            · rw [if_pos c15] at H
              have c15b0 : decide (x13_1 < (l1.length : Int)) = true := decide_eq_true c15
              clear c15
              replace H := Option.bind_eq_some_iff.mp H
              obtain ⟨⟨t379, t380, t383⟩, A160, H⟩ := H
              replace H : ((rat_Mul.f k1 ((rd_T39 l0 x13_1).f0.f0) ((rd_T39 l0 x13_1).f0.f1) ((rd_T39 l0 x13_1).f1) t379 t380 t383).bind fun bt386 => ((rat_Add.f k1 x377000_1 x377001_1 x377002_1 bt386.1 bt386.2.1 bt386.2.2).bind fun bt393 => (knap_Worth.l0 k1 l0 l1 ji4 (wrap64 (x13_1 + 1)) bt393.1 bt393.2.1 bt393.2.2))) = some (r1, r2, r3) := H
              have A16 := Aside0.mk A160
              clear A160
              replace H := Option.bind_eq_some_iff.mp H
              obtain ⟨⟨t386, t387, t390⟩, A170, H⟩ := H
              replace H : ((rat_Add.f k1 x377000_1 x377001_1 x377002_1 t386 t387 t390).bind fun bt393 => (knap_Worth.l0 k1 l0 l1 ji4 (wrap64 (x13_1 + 1)) bt393.1 bt393.2.1 bt393.2.2)) = some (r1, r2, r3) := H
              have A17 := Aside0.mk A170
              clear A170
              replace H := Option.bind_eq_some_iff.mp H
              obtain ⟨⟨t393, t394, t397⟩, A180, H⟩ := H
              replace H : (knap_Worth.l0 k1 l0 l1 ji4 (wrap64 (x13_1 + 1)) t393 t394 t397) = some (r1, r2, r3) := H
              have A18 := Aside0.mk A180
              clear A180
              have H' := Aside0.mk H
              clear H
              try go_wp2
              have n0_ := Aside0.mk (Kd.R_drew HO_377001.out)
              have n1_ := Aside0.mk (Kd.R_drew HO_377002.out)
              have n2_ := Aside0.mk (z07q BK368.out)
              have n3_ := Aside0.mk (z07q BK376.out)
              have n4_ := Aside0.mk (z01q HB.out)
              clear HO_377001
              clear HO_377002
              clear BK368
              clear BK376
              clear HB
              have HO_377001 := n0_
              have HO_377002 := n1_
              have BK368 := n2_
              have BK376 := n3_
              have HB := n4_
              clear n0_ n1_ n2_ n3_ n4_
              have p377 : 0 ≤ (x13_1 : Int) := of_decide_eq_true (by first | (with_reducible assumption) | assumption)
              have q377 : x13_1 < (l0.length : Int) := of_decide_eq_true (by first | (with_reducible assumption) | assumption)
              obtain ⟨ad377, A377_1, c377_1, A377_2, c377_2, e377, hx377_0, hx377_1, hx377_2, hl377_1, hi377_1, hl377_2, hi377_2⟩ := at_T39 HR0.out x13_1 p377 q377
              have hw377_2 := hx377_2
              have hw377_1 := hx377_1
              have hw377_0 := hx377_0
              cases e377
              replace hx377_0 := (HB.out.cell (World.block_lt_of_cell? w _ hx377_0)).trans hx377_0
              replace hx377_1 := (HB.out.cell (World.block_lt_of_cell? w _ hx377_1)).trans hx377_1
              replace hx377_2 := (HB.out.cell (World.block_lt_of_cell? w _ hx377_2)).trans hx377_2
              have HR377_1 := Aside0.mk hi377_1
              have HC377_1 := Aside0.mk hl377_1
              clear hi377_1 hl377_1
              have HR377_2 := Aside0.mk hi377_2
              have HC377_2 := Aside0.mk hl377_2
              clear hi377_2 hl377_2
              replace p377 := eq_true p377
              replace q377 := eq_true q377
              have p378 : 0 ≤ (x13_1 : Int) := of_decide_eq_true (by first | (with_reducible assumption) | assumption)
              have q378 : x13_1 < (l1.length : Int) := of_decide_eq_true (by first | (with_reducible assumption) | assumption)
              obtain ⟨ad378, e378, hx378_0⟩ := Kd.at_int HR1.out x13_1 p378 q378
              have hw378_0 := hx378_0
              cases e378
              replace hx378_0 := (HB.out.cell (World.block_lt_of_cell? w _ hx378_0)).trans hx378_0
              replace p378 := eq_true p378
              replace q378 := eq_true q378
              refine start_ (n := 13) (S := fun w' => w'.cell? ⟨gb376, 0, none⟩ = some (.bool x377000_1) ∧ w'.cell? ⟨gb376, 1, none⟩ = some (u377001) ∧ w'.cell? ⟨gb376, 2, none⟩ = some (u377002) ∧ w'.cell? (ad377.add ((x13_1).toNat * 3)) = some (.bool ((rd_T39 l0 x13_1).f0.f0)) ∧ w'.cell? ⟨(ad377.add ((x13_1).toNat * 3)).block, (ad377.add ((x13_1).toNat * 3)).off + 1, none⟩ = some (.slice A377_1 ((rd_T39 l0 x13_1).f0.f1).length c377_1) ∧ w'.cell? ⟨(ad377.add ((x13_1).toNat * 3)).block, (ad377.add ((x13_1).toNat * 3)).off + 2, none⟩ = some (.slice A377_2 ((rd_T39 l0 x13_1).f1).length c377_2) ∧ w'.cell? (ad378.add (x13_1).toNat) = some (.int .i64 (rd l1 x13_1))) (ds := [12]) #[false, false, false, false, false, false, false, false, false, false, false, false, false] (by kernel_rfl) rfl rfl ⟨(z04q BK376.out 0).trans rfl, (z04q BK376.out 1).trans rfl, (z04q BK376.out 2).trans rfl, ((HB.out.cell (World.block_lt_of_cell? w _ hw377_0)).trans hw377_0), ((HB.out.cell (World.block_lt_of_cell? w _ hw377_1)).trans hw377_1), ((HB.out.cell (World.block_lt_of_cell? w _ hw377_2)).trans hw377_2), ((HB.out.cell (World.block_lt_of_cell? w _ hw378_0)).trans hw378_0)⟩ (fun hHeld => ?_); refine with_tabW knap_Worth.tab5 knap_Worth.bits5 (fun HT_ HW_ => ?_)
              generalize wr.drew = w19 at HO_377001 HO_377002 BK368 BK376 HB HR377_1 HR377_2 hx377_0 hx377_1 hx377_2 hx378_0 hHeld ⊢
              refine pure_ (i := 1) (N := some 17) (v := ?_) (a' := ?_) #[false, true, false, false, false, false, false, false, false, false, false, false, false] rfl rfl (any_of HT_.out (by kernel_rfl)) (fun _ _ _ h => h) (Or.inl ⟨by rfl, ?_⟩) ?_ ?_
              rotate_left
              · intro w'
                go_simp
                with_reducible rfl
              rotate_left
              · simp only [Act.put, List.setIfInBounds_toArray, List.set_cons_zero, List.set_cons_succ, i64_w, i32_w]
                rfl
              refine pure_ (i := 2) (N := some 18) (v := ?_) (a' := ?_) #[false, true, true, false, false, false, false, false, false, false, false, false, false] rfl rfl (any_of HT_.out (by kernel_rfl)) (fun _ _ _ h => h) (Or.inl ⟨by rfl, ?_⟩) ?_ ?_
              rotate_left
              · intro w'
                go_simp
                with_reducible rfl
              rotate_left
              · simp only [Act.put, List.setIfInBounds_toArray, List.set_cons_zero, List.set_cons_succ, i64_w, i32_w]
                rfl
              refine pure_ (i := 3) (N := some 19) (v := ?_) (a' := ?_) #[false, true, true, true, false, false, false, false, false, false, false, false, false] rfl rfl (any_of HT_.out (by kernel_rfl)) (fun _ _ _ h => h) (Or.inl ⟨by rfl, ?_⟩) ?_ ?_
              rotate_left
              · intro w'
                go_simp
                with_reducible rfl
              rotate_left
              · simp only [Act.put, List.setIfInBounds_toArray, List.set_cons_zero, List.set_cons_succ, i64_w, i32_w]
                rfl
              refine pure_ (i := 5) (N := some 21) (v := ?_) (a' := ?_) #[false, true, true, true, false, true, false, false, false, false, false, false, false] rfl rfl (any_of HT_.out (by kernel_rfl)) (fun _ _ _ h => h) (Or.inl ⟨by rfl, ?_⟩) ?_ ?_
              rotate_left
              · intro w'
                go_simp
                with_reducible rfl
              rotate_left
              · simp only [Act.put, List.setIfInBounds_toArray, List.set_cons_zero, List.set_cons_succ, i64_w, i32_w]
                rfl
              refine pure_ (i := 6) (N := some 22) (v := ?_) (a' := ?_) #[false, true, true, true, false, true, true, false, false, false, false, false, false] rfl rfl (any_of HT_.out (by kernel_rfl)) (fun _ _ _ h => h) (Or.inl ⟨by rfl, ?_⟩) ?_ ?_
              rotate_left
              · intro w'
                go_simp
                with_reducible rfl
              rotate_left
              · simp only [Act.put, List.setIfInBounds_toArray, List.set_cons_zero, List.set_cons_succ, i64_w, i32_w]
                rfl
              refine pure_ (i := 7) (N := some 23) (v := ?_) (a' := ?_) #[false, true, true, true, false, true, true, true, false, false, false, false, false] rfl rfl (any_of HT_.out (by kernel_rfl)) (fun _ _ _ h => h) (Or.inl ⟨by rfl, ?_⟩) ?_ ?_
              rotate_left
              · intro w'
                go_simp
                with_reducible rfl
              rotate_left
              · simp only [Act.put, List.setIfInBounds_toArray, List.set_cons_zero, List.set_cons_succ, i64_w, i32_w]
                rfl
              refine take_ (i := 0) (N := some 16) (v := ?_) (a' := ?_) #[true, true, true, true, false, true, true, true, false, false, false, false, false] rfl rfl (z29q HT_.out HW_.out (by kernel_rfl)) (fun _ _ _ h => h) (Or.inl ⟨by rfl, ?_⟩) hHeld ?_ ?_
              rotate_left
              · rintro w' ⟨s0, s1, s2, s3, s4, s5, s6⟩
                go_simp
                with_reducible rfl
              rotate_left
              · simp only [Act.put, List.setIfInBounds_toArray, List.set_cons_zero, List.set_cons_succ, i64_w, i32_w]
                rfl
              refine take_ (i := 4) (N := some 20) (v := ?_) (a' := ?_) #[true, true, true, true, true, true, true, true, false, false, false, false, false] rfl rfl (z29q HT_.out HW_.out (by kernel_rfl)) (fun _ _ _ h => h) (Or.inl ⟨by rfl, ?_⟩) hHeld ?_ ?_
              rotate_left
              · rintro w' ⟨s0, s1, s2, s3, s4, s5, s6⟩
                go_simp
                with_reducible rfl
              rotate_left
              · simp only [Act.put, List.setIfInBounds_toArray, List.set_cons_zero, List.set_cons_succ, i64_w, i32_w]
                rfl
              refine take_ (i := 8) (N := some 24) (v := ?_) (a' := ?_) #[true, true, true, true, true, true, true, true, true, false, false, false, false] rfl rfl (z29q HT_.out HW_.out (by kernel_rfl)) (fun _ _ _ h => h) (Or.inl ⟨by rfl, ?_⟩) hHeld ?_ ?_
              rotate_left
              · rintro w' ⟨s0, s1, s2, s3, s4, s5, s6⟩
                go_simp
                with_reducible rfl
              rotate_left
              · simp only [Act.put, List.setIfInBounds_toArray, List.set_cons_zero, List.set_cons_succ, i64_w, i32_w]
                rfl
              refine one_ (i := 9) (N := some 25) #[true, true, true, true, true, true, true, true, true, true, false, false, false] rfl rfl (one_of HT_.out (by kernel_rfl)) (by decide) (fun K hK => ?_)
              refine goes_ Try.func21 (by kernel_rfl) rfl #[.int .i64 (rd l1 x13_1)] (by rfl) rfl rfl (by (try simp only [List.map_toArray, List.map_cons, List.map_nil]); first | done | rfl | (simp only [List.length_drop, List.length_take]; rfl)) ?_
              with_reducible refine (rat_Int.calls k1 (rd l1 x13_1) t379 t380 t383 _ A16.out).mono ?_
              rintro e w20 ⟨v381, v384, rfl, ho0, ho1, hb⟩
              refine ⟨_, rfl, ?_⟩
              have n0_ := Aside0.mk (Kd.R_mono (Kd.R_told (Kd.R_told (Kd.R_old (by (with_reducible repeat (first | apply Kd.R_alloc | apply Kd.R_drewN | apply Kd.R_drew)); exact HO_377001.out) hb) (Kd.R_base ho0)) (Kd.R_base ho1)) (fun _ h_ => h_.1))
              have n1_ := Aside0.mk (Kd.R_mono (Kd.R_told (Kd.R_told (Kd.R_old (by (with_reducible repeat (first | apply Kd.R_alloc | apply Kd.R_drewN | apply Kd.R_drew)); exact HO_377002.out) hb) (Kd.R_base ho0)) (Kd.R_base ho1)) (fun _ h_ => h_.1))
              have n2_ := Aside0.mk (Kd.R_lower (Kd.R_new' (Kd.R_new' ho0 (Kd.R_lt (by (with_reducible repeat (first | apply Kd.R_alloc | apply Kd.R_drewN | apply Kd.R_drew)); exact HO_377001.out))) (Kd.R_lt (by (with_reducible repeat (first | apply Kd.R_alloc | apply Kd.R_drewN | apply Kd.R_drew)); exact HO_377002.out))) (z10q (by repeat (first | (with_reducible first | exact HB.out | apply z02q | apply z00q | apply z01q | refine z03q ?_ GE368.out | refine z03q ?_ GE376.out) | exact HB.out))))
              have n3_ := Aside0.mk (Kd.R_lower (Kd.R_new' (Kd.R_new' ho1 (Kd.R_lt (by (with_reducible repeat (first | apply Kd.R_alloc | apply Kd.R_drewN | apply Kd.R_drew)); exact HO_377001.out))) (Kd.R_lt (by (with_reducible repeat (first | apply Kd.R_alloc | apply Kd.R_drewN | apply Kd.R_drew)); exact HO_377002.out))) (z10q (by repeat (first | (with_reducible first | exact HB.out | apply z02q | apply z00q | apply z01q | refine z03q ?_ GE368.out | refine z03q ?_ GE376.out) | exact HB.out))))
              have n4_ := Aside0.mk (z09q (g := gb368) (o := .cells #[.bool false, .slice none 0 0, .slice none 0 0] 39 (0, 0)) (by (with_reducible repeat (first | refine z06q ?_ _ | refine z07q ?_ | refine z05q ?_ _)); exact BK368.out) hb)
              have n5_ := Aside0.mk (z09q (g := gb376) (o := .cells #[.bool x377000_1, u377001, u377002] 39 (0, 0)) (by (with_reducible repeat (first | refine z06q ?_ _ | refine z07q ?_ | refine z05q ?_ _)); exact BK376.out) hb)
              have n6_ := Aside0.mk (z11q (by repeat (first | (with_reducible first | exact HB.out | apply z02q | apply z00q | apply z01q | refine z03q ?_ GE368.out | refine z03q ?_ GE376.out) | exact HB.out)) hb)
              clear HO_377001
              clear HO_377002
              clear BK368
              clear BK376
              clear HB
              have HO_377001 := n0_
              have HO_377002 := n1_
              have HO382 := n2_
              have HO385 := n3_
              have BK368 := n4_
              have BK376 := n5_
              have HB := n6_
              clear n0_ n1_ n2_ n3_ n4_ n5_ n6_
              (try clear hb)
              (try clear hb2)
              (try clear hk)
              (try clear hi)
              (try clear ho0)
              (try clear ho1)
              obtain ⟨Ao21, co21, eo21⟩ := Kd.R_slice HO382.out
              (first | subst eo21 | (injection eo21 with f1_ f2_ f3_; have f4_ := f1_.symm; have f5_ := f3_.symm; clear f1_ f2_ f3_; subst f4_; subst f5_))
              obtain ⟨Ao22, co22, eo22⟩ := Kd.R_slice HO385.out
              (first | subst eo22 | (injection eo22 with f1_ f2_ f3_; have f4_ := f1_.symm; have f5_ := f3_.symm; clear f1_ f2_ f3_; subst f4_; subst f5_))
              refine hK.out _ _ ⟨(z04q BK376.out 0).trans rfl, (z04q BK376.out 1).trans rfl, (z04q BK376.out 2).trans rfl, ((HB.out.cell (World.block_lt_of_cell? w _ hw377_0)).trans hw377_0), ((HB.out.cell (World.block_lt_of_cell? w _ hw377_1)).trans hw377_1), ((HB.out.cell (World.block_lt_of_cell? w _ hw377_2)).trans hw377_2), ((HB.out.cell (World.block_lt_of_cell? w _ hw378_0)).trans hw378_0)⟩ (fun hHeld => ?_)
              clear hK K
              refine norm_ (a' := ?_) ?_ ?_
              rotate_left
              · show Act.put _ (some 25) _ = _
                simp only [Act.put, List.setIfInBounds_toArray, List.set_cons_zero, List.set_cons_succ, i64_w, i32_w]
                rfl
              refine one_ (i := 10) (N := some 26) #[true, true, true, true, true, true, true, true, true, true, true, false, false] rfl rfl (one_of HT_.out (by kernel_rfl)) (by decide) (fun K hK => ?_)
              refine goes_ Try.func27 (by kernel_rfl) rfl #[.agg #[.bool ((rd_T39 l0 x13_1).f0.f0), .slice A377_1 ((rd_T39 l0 x13_1).f0.f1).length c377_1, .slice A377_2 ((rd_T39 l0 x13_1).f1).length c377_2], .agg #[.bool t379, .slice Ao21 t380.length co21, .slice Ao22 t383.length co22]] (by rfl) rfl rfl (by (try simp only [List.map_toArray, List.map_cons, List.map_nil]); first | done | rfl | (simp only [List.length_drop, List.length_take]; rfl)) ?_
              with_reducible refine (rat_Mul.calls k1 ((rd_T39 l0 x13_1).f0.f0) _ _ ((rd_T39 l0 x13_1).f0.f1) _ _ ((rd_T39 l0 x13_1).f1) t379 _ _ t380 _ _ t383 t386 t387 t390 _ ?side1 ?side2 ?side3 ?side4 ?side5 ?side6 ?side7 ?side8 A17.out).mono ?_
              (case side1 => repeat (first | exact (Kd.C_below HR377_1.out HB.out) | (with_reducible refine Kd.C_alloc ?_ _) | (with_reducible refine Kd.C_drewN ?_ _) | (with_reducible refine Kd.C_drew ?_)))
              (case side2 => exact HC377_1.out)
              (case side3 => repeat (first | exact (Kd.C_below HR377_2.out HB.out) | (with_reducible refine Kd.C_alloc ?_ _) | (with_reducible refine Kd.C_drewN ?_ _) | (with_reducible refine Kd.C_drew ?_)))
              (case side4 => exact HC377_2.out)
              (case side5 => repeat (first | exact (Kd.R_reads' HO382.out).2.2 | (with_reducible refine Kd.C_alloc ?_ _) | (with_reducible refine Kd.C_drewN ?_ _) | (with_reducible refine Kd.C_drew ?_)))
              (case side6 => exact (Kd.R_reads' HO382.out).2.1)
              (case side7 => repeat (first | exact (Kd.R_reads' HO385.out).2.2 | (with_reducible refine Kd.C_alloc ?_ _) | (with_reducible refine Kd.C_drewN ?_ _) | (with_reducible refine Kd.C_drew ?_)))
              (case side8 => exact (Kd.R_reads' HO385.out).2.1)
              rintro e w23 ⟨v388, v391, rfl, ho0, ho1, hb⟩
              refine ⟨_, rfl, ?_⟩
              have n0_ := Aside0.mk (Kd.R_mono (Kd.R_told (Kd.R_told (Kd.R_old (by (with_reducible repeat (first | apply Kd.R_alloc | apply Kd.R_drewN | apply Kd.R_drew)); exact HO_377001.out) hb) (Kd.R_base ho0)) (Kd.R_base ho1)) (fun _ h_ => h_.1))
              have n1_ := Aside0.mk (Kd.R_mono (Kd.R_told (Kd.R_told (Kd.R_old (by (with_reducible repeat (first | apply Kd.R_alloc | apply Kd.R_drewN | apply Kd.R_drew)); exact HO_377002.out) hb) (Kd.R_base ho0)) (Kd.R_base ho1)) (fun _ h_ => h_.1))
              have n2_ := Aside0.mk (Kd.R_mono (Kd.R_told (Kd.R_told (Kd.R_old (by (with_reducible repeat (first | apply Kd.R_alloc | apply Kd.R_drewN | apply Kd.R_drew)); exact HO382.out) hb) (Kd.R_base ho0)) (Kd.R_base ho1)) (fun _ h_ => h_.1))
              have n3_ := Aside0.mk (Kd.R_mono (Kd.R_told (Kd.R_told (Kd.R_old (by (with_reducible repeat (first | apply Kd.R_alloc | apply Kd.R_drewN | apply Kd.R_drew)); exact HO385.out) hb) (Kd.R_base ho0)) (Kd.R_base ho1)) (fun _ h_ => h_.1))
              have n4_ := Aside0.mk (Kd.R_lower (Kd.R_new' (Kd.R_new' (Kd.R_new' (Kd.R_new' ho0 (Kd.R_lt (by (with_reducible repeat (first | apply Kd.R_alloc | apply Kd.R_drewN | apply Kd.R_drew)); exact HO_377001.out))) (Kd.R_lt (by (with_reducible repeat (first | apply Kd.R_alloc | apply Kd.R_drewN | apply Kd.R_drew)); exact HO_377002.out))) (Kd.R_lt (by (with_reducible repeat (first | apply Kd.R_alloc | apply Kd.R_drewN | apply Kd.R_drew)); exact HO382.out))) (Kd.R_lt (by (with_reducible repeat (first | apply Kd.R_alloc | apply Kd.R_drewN | apply Kd.R_drew)); exact HO385.out))) (z10q (by repeat (first | (with_reducible first | exact HB.out | apply z02q | apply z00q | apply z01q | refine z03q ?_ GE368.out | refine z03q ?_ GE376.out) | exact HB.out))))
              have n5_ := Aside0.mk (Kd.R_lower (Kd.R_new' (Kd.R_new' (Kd.R_new' (Kd.R_new' ho1 (Kd.R_lt (by (with_reducible repeat (first | apply Kd.R_alloc | apply Kd.R_drewN | apply Kd.R_drew)); exact HO_377001.out))) (Kd.R_lt (by (with_reducible repeat (first | apply Kd.R_alloc | apply Kd.R_drewN | apply Kd.R_drew)); exact HO_377002.out))) (Kd.R_lt (by (with_reducible repeat (first | apply Kd.R_alloc | apply Kd.R_drewN | apply Kd.R_drew)); exact HO382.out))) (Kd.R_lt (by (with_reducible repeat (first | apply Kd.R_alloc | apply Kd.R_drewN | apply Kd.R_drew)); exact HO385.out))) (z10q (by repeat (first | (with_reducible first | exact HB.out | apply z02q | apply z00q | apply z01q | refine z03q ?_ GE368.out | refine z03q ?_ GE376.out) | exact HB.out))))
              have n6_ := Aside0.mk (z09q (g := gb368) (o := .cells #[.bool false, .slice none 0 0, .slice none 0 0] 39 (0, 0)) (by (with_reducible repeat (first | refine z06q ?_ _ | refine z07q ?_ | refine z05q ?_ _)); exact BK368.out) hb)
              have n7_ := Aside0.mk (z09q (g := gb376) (o := .cells #[.bool x377000_1, u377001, u377002] 39 (0, 0)) (by (with_reducible repeat (first | refine z06q ?_ _ | refine z07q ?_ | refine z05q ?_ _)); exact BK376.out) hb)
              have n8_ := Aside0.mk (z11q (by repeat (first | (with_reducible first | exact HB.out | apply z02q | apply z00q | apply z01q | refine z03q ?_ GE368.out | refine z03q ?_ GE376.out) | exact HB.out)) hb)
              clear HO_377001
              clear HO_377002
              clear HO382
              clear HO385
              clear BK368
              clear BK376
              clear HB
              have HO_377001 := n0_
              have HO_377002 := n1_
              have HO382 := n2_
              have HO385 := n3_
              have HO389 := n4_
              have HO392 := n5_
              have BK368 := n6_
              have BK376 := n7_
              have HB := n8_
              clear n0_ n1_ n2_ n3_ n4_ n5_ n6_ n7_ n8_
              (try clear hb)
              (try clear hb2)
              (try clear hk)
              (try clear hi)
              (try clear ho0)
              (try clear ho1)
              obtain ⟨Ao24, co24, eo24⟩ := Kd.R_slice HO_377001.out
              (first | subst eo24 | (injection eo24 with f1_ f2_ f3_; have f4_ := f1_.symm; have f5_ := f3_.symm; clear f1_ f2_ f3_; subst f4_; subst f5_))
              obtain ⟨Ao25, co25, eo25⟩ := Kd.R_slice HO_377002.out
              (first | subst eo25 | (injection eo25 with f1_ f2_ f3_; have f4_ := f1_.symm; have f5_ := f3_.symm; clear f1_ f2_ f3_; subst f4_; subst f5_))
              obtain ⟨Ao26, co26, eo26⟩ := Kd.R_slice HO389.out
              (first | subst eo26 | (injection eo26 with f1_ f2_ f3_; have f4_ := f1_.symm; have f5_ := f3_.symm; clear f1_ f2_ f3_; subst f4_; subst f5_))
              obtain ⟨Ao27, co27, eo27⟩ := Kd.R_slice HO392.out
              (first | subst eo27 | (injection eo27 with f1_ f2_ f3_; have f4_ := f1_.symm; have f5_ := f3_.symm; clear f1_ f2_ f3_; subst f4_; subst f5_))
              refine hK.out _ _ ⟨(z04q BK376.out 0).trans rfl, (z04q BK376.out 1).trans rfl, (z04q BK376.out 2).trans rfl, ((HB.out.cell (World.block_lt_of_cell? w _ hw377_0)).trans hw377_0), ((HB.out.cell (World.block_lt_of_cell? w _ hw377_1)).trans hw377_1), ((HB.out.cell (World.block_lt_of_cell? w _ hw377_2)).trans hw377_2), ((HB.out.cell (World.block_lt_of_cell? w _ hw378_0)).trans hw378_0)⟩ (fun hHeld => ?_)
              clear hK K
              refine norm_ (a' := ?_) ?_ ?_
              rotate_left
              · show Act.put _ (some 26) _ = _
                simp only [Act.put, List.setIfInBounds_toArray, List.set_cons_zero, List.set_cons_succ, i64_w, i32_w]
                rfl
              refine one_ (i := 11) (N := some 27) #[true, true, true, true, true, true, true, true, true, true, true, true, false] rfl rfl (one_of HT_.out (by kernel_rfl)) (by decide) (fun K hK => ?_)
              refine goes_ Try.func23 (by kernel_rfl) rfl #[.agg #[.bool x377000_1, .slice Ao24 x377001_1.length co24, .slice Ao25 x377002_1.length co25], .agg #[.bool t386, .slice Ao26 t387.length co26, .slice Ao27 t390.length co27]] (by rfl) rfl rfl (by (try simp only [List.map_toArray, List.map_cons, List.map_nil]); first | done | rfl | (simp only [List.length_drop, List.length_take]; rfl)) ?_
              with_reducible refine (rat_Add.calls k1 x377000_1 _ _ x377001_1 _ _ x377002_1 t386 _ _ t387 _ _ t390 t393 t394 t397 _ ?side1 ?side2 ?side3 ?side4 ?side5 ?side6 ?side7 ?side8 A18.out).mono ?_
              (case side1 => repeat (first | exact (Kd.R_reads' HO_377001.out).2.2 | (with_reducible refine Kd.C_alloc ?_ _) | (with_reducible refine Kd.C_drewN ?_ _) | (with_reducible refine Kd.C_drew ?_)))
              (case side2 => exact (Kd.R_reads' HO_377001.out).2.1)
              (case side3 => repeat (first | exact (Kd.R_reads' HO_377002.out).2.2 | (with_reducible refine Kd.C_alloc ?_ _) | (with_reducible refine Kd.C_drewN ?_ _) | (with_reducible refine Kd.C_drew ?_)))
              (case side4 => exact (Kd.R_reads' HO_377002.out).2.1)
              (case side5 => repeat (first | exact (Kd.R_reads' HO389.out).2.2 | (with_reducible refine Kd.C_alloc ?_ _) | (with_reducible refine Kd.C_drewN ?_ _) | (with_reducible refine Kd.C_drew ?_)))
              (case side6 => exact (Kd.R_reads' HO389.out).2.1)
              (case side7 => repeat (first | exact (Kd.R_reads' HO392.out).2.2 | (with_reducible refine Kd.C_alloc ?_ _) | (with_reducible refine Kd.C_drewN ?_ _) | (with_reducible refine Kd.C_drew ?_)))
              (case side8 => exact (Kd.R_reads' HO392.out).2.1)
              rintro e w28 ⟨v395, v398, rfl, ho0, ho1, hb⟩
              refine ⟨_, rfl, ?_⟩
              have n0_ := Aside0.mk (Kd.R_mono (Kd.R_told (Kd.R_told (Kd.R_old (by (with_reducible repeat (first | apply Kd.R_alloc | apply Kd.R_drewN | apply Kd.R_drew)); exact HO_377001.out) hb) (Kd.R_base ho0)) (Kd.R_base ho1)) (fun _ h_ => h_.1))
              have n1_ := Aside0.mk (Kd.R_mono (Kd.R_told (Kd.R_told (Kd.R_old (by (with_reducible repeat (first | apply Kd.R_alloc | apply Kd.R_drewN | apply Kd.R_drew)); exact HO_377002.out) hb) (Kd.R_base ho0)) (Kd.R_base ho1)) (fun _ h_ => h_.1))
              have n2_ := Aside0.mk (Kd.R_mono (Kd.R_told (Kd.R_told (Kd.R_old (by (with_reducible repeat (first | apply Kd.R_alloc | apply Kd.R_drewN | apply Kd.R_drew)); exact HO382.out) hb) (Kd.R_base ho0)) (Kd.R_base ho1)) (fun _ h_ => h_.1))
              have n3_ := Aside0.mk (Kd.R_mono (Kd.R_told (Kd.R_told (Kd.R_old (by (with_reducible repeat (first | apply Kd.R_alloc | apply Kd.R_drewN | apply Kd.R_drew)); exact HO385.out) hb) (Kd.R_base ho0)) (Kd.R_base ho1)) (fun _ h_ => h_.1))
              have n4_ := Aside0.mk (Kd.R_mono (Kd.R_told (Kd.R_told (Kd.R_old (by (with_reducible repeat (first | apply Kd.R_alloc | apply Kd.R_drewN | apply Kd.R_drew)); exact HO389.out) hb) (Kd.R_base ho0)) (Kd.R_base ho1)) (fun _ h_ => h_.1))
              have n5_ := Aside0.mk (Kd.R_mono (Kd.R_told (Kd.R_told (Kd.R_old (by (with_reducible repeat (first | apply Kd.R_alloc | apply Kd.R_drewN | apply Kd.R_drew)); exact HO392.out) hb) (Kd.R_base ho0)) (Kd.R_base ho1)) (fun _ h_ => h_.1))
              have n6_ := Aside0.mk (Kd.R_lower (Kd.R_new' (Kd.R_new' (Kd.R_new' (Kd.R_new' (Kd.R_new' (Kd.R_new' ho0 (Kd.R_lt (by (with_reducible repeat (first | apply Kd.R_alloc | apply Kd.R_drewN | apply Kd.R_drew)); exact HO_377001.out))) (Kd.R_lt (by (with_reducible repeat (first | apply Kd.R_alloc | apply Kd.R_drewN | apply Kd.R_drew)); exact HO_377002.out))) (Kd.R_lt (by (with_reducible repeat (first | apply Kd.R_alloc | apply Kd.R_drewN | apply Kd.R_drew)); exact HO382.out))) (Kd.R_lt (by (with_reducible repeat (first | apply Kd.R_alloc | apply Kd.R_drewN | apply Kd.R_drew)); exact HO385.out))) (Kd.R_lt (by (with_reducible repeat (first | apply Kd.R_alloc | apply Kd.R_drewN | apply Kd.R_drew)); exact HO389.out))) (Kd.R_lt (by (with_reducible repeat (first | apply Kd.R_alloc | apply Kd.R_drewN | apply Kd.R_drew)); exact HO392.out))) (z10q (by repeat (first | (with_reducible first | exact HB.out | apply z02q | apply z00q | apply z01q | refine z03q ?_ GE368.out | refine z03q ?_ GE376.out) | exact HB.out))))
              have n7_ := Aside0.mk (Kd.R_lower (Kd.R_new' (Kd.R_new' (Kd.R_new' (Kd.R_new' (Kd.R_new' (Kd.R_new' ho1 (Kd.R_lt (by (with_reducible repeat (first | apply Kd.R_alloc | apply Kd.R_drewN | apply Kd.R_drew)); exact HO_377001.out))) (Kd.R_lt (by (with_reducible repeat (first | apply Kd.R_alloc | apply Kd.R_drewN | apply Kd.R_drew)); exact HO_377002.out))) (Kd.R_lt (by (with_reducible repeat (first | apply Kd.R_alloc | apply Kd.R_drewN | apply Kd.R_drew)); exact HO382.out))) (Kd.R_lt (by (with_reducible repeat (first | apply Kd.R_alloc | apply Kd.R_drewN | apply Kd.R_drew)); exact HO385.out))) (Kd.R_lt (by (with_reducible repeat (first | apply Kd.R_alloc | apply Kd.R_drewN | apply Kd.R_drew)); exact HO389.out))) (Kd.R_lt (by (with_reducible repeat (first | apply Kd.R_alloc | apply Kd.R_drewN | apply Kd.R_drew)); exact HO392.out))) (z10q (by repeat (first | (with_reducible first | exact HB.out | apply z02q | apply z00q | apply z01q | refine z03q ?_ GE368.out | refine z03q ?_ GE376.out) | exact HB.out))))
              have n8_ := Aside0.mk (z09q (g := gb368) (o := .cells #[.bool false, .slice none 0 0, .slice none 0 0] 39 (0, 0)) (by (with_reducible repeat (first | refine z06q ?_ _ | refine z07q ?_ | refine z05q ?_ _)); exact BK368.out) hb)
              have n9_ := Aside0.mk (z09q (g := gb376) (o := .cells #[.bool x377000_1, .slice Ao24 x377001_1.length co24, .slice Ao25 x377002_1.length co25] 39 (0, 0)) (by (with_reducible repeat (first | refine z06q ?_ _ | refine z07q ?_ | refine z05q ?_ _)); exact BK376.out) hb)
              have n10_ := Aside0.mk (z11q (by repeat (first | (with_reducible first | exact HB.out | apply z02q | apply z00q | apply z01q | refine z03q ?_ GE368.out | refine z03q ?_ GE376.out) | exact HB.out)) hb)
              clear HO_377001
              clear HO_377002
              clear HO382
              clear HO385
              clear HO389
              clear HO392
              clear BK368
              clear BK376
              clear HB
              have HO_377001 := n0_
              have HO_377002 := n1_
              have HO382 := n2_
              have HO385 := n3_
              have HO389 := n4_
              have HO392 := n5_
              have HO396 := n6_
              have HO399 := n7_
              have BK368 := n8_
              have BK376 := n9_
              have HB := n10_
              clear n0_ n1_ n2_ n3_ n4_ n5_ n6_ n7_ n8_ n9_ n10_
              (try clear hb)
              (try clear hb2)
              (try clear hk)
              (try clear hi)
              (try clear ho0)
              (try clear ho1)
              obtain ⟨Ao30, co30, eo30⟩ := Kd.R_slice HO396.out
              (first | subst eo30 | (injection eo30 with f1_ f2_ f3_; have f4_ := f1_.symm; have f5_ := f3_.symm; clear f1_ f2_ f3_; subst f4_; subst f5_))
              obtain ⟨Ao32, co32, eo32⟩ := Kd.R_slice HO399.out
              (first | subst eo32 | (injection eo32 with f1_ f2_ f3_; have f4_ := f1_.symm; have f5_ := f3_.symm; clear f1_ f2_ f3_; subst f4_; subst f5_))
              refine hK.out _ _ ⟨(z04q BK376.out 0).trans rfl, (z04q BK376.out 1).trans rfl, (z04q BK376.out 2).trans rfl, ((HB.out.cell (World.block_lt_of_cell? w _ hw377_0)).trans hw377_0), ((HB.out.cell (World.block_lt_of_cell? w _ hw377_1)).trans hw377_1), ((HB.out.cell (World.block_lt_of_cell? w _ hw377_2)).trans hw377_2), ((HB.out.cell (World.block_lt_of_cell? w _ hw378_0)).trans hw378_0)⟩ (fun hHeld => ?_)
              clear hK K
              refine norm_ (a' := ?_) ?_ ?_
              rotate_left
              · show Act.put _ (some 27) _ = _
                simp only [Act.put, List.setIfInBounds_toArray, List.set_cons_zero, List.set_cons_succ, i64_w, i32_w]
                rfl
              refine last_ (i := 12) (N := none) #[true, true, true, true, true, true, true, true, true, true, true, true, true] rfl rfl (one_of HT_.out (by kernel_rfl)) (by decide) (fun K hK => ?_)
              have hs29 : w28.cell? ⟨gb376, 0, none⟩ = some (.bool x377000_1) := (z04q BK376.out 0).trans rfl
              have hfs29 := z08q BK376.out 0
              have hns29_0 := NB368_376.out
              have hms29_0 := NB376_368.out
              have hs31 : w28.cell? ⟨gb376, 1, none⟩ = some (.slice Ao24 x377001_1.length co24) := (z04q BK376.out 1).trans rfl
              have hfs31 := z08q BK376.out 1
              have hns31_0 := NB368_376.out
              have hms31_0 := NB376_368.out
              have hs33 : w28.cell? ⟨gb376, 2, none⟩ = some (.slice Ao25 x377002_1.length co25) := (z04q BK376.out 2).trans rfl
              have hfs33 := z08q BK376.out 2
              have hns33_0 := NB368_376.out
              have hms33_0 := NB376_368.out
              refine skip_ (w1 := ?_) (by rfl) rfl ?_ ?_
              rotate_left
              · go_simp
                rfl
              refine hK.out _ _ ?_
              clear hK K
              refine done_ (done_of HT_.out (by kernel_rfl)) ?_
              try go_wp2
              go_roundg k1
              case measure => have := HK1.out; omega
              case rel => exact ⟨(wrap64 (x13_1 + 1)), (t393), (t394), (t397), (.slice Ao30 t394.length co30), (.slice Ao32 t397.length co32), (by first | rfl | (simp; done) | (simp [*]; done)), H', ⟨by have := HK1.out; omega⟩, ⟨by (with_reducible repeat (first | apply Kd.R_alloc | apply Kd.R_drewN | apply Kd.R_drew)); exact Kd.R_mono (Kd.R_far (p := ⟨gb376, 2, none⟩) (Kd.R_far (p := ⟨gb376, 1, none⟩) (Kd.R_far (p := ⟨gb376, 0, none⟩) (Kd.R_types HO396.out BK376.out (by decide)) (fun _ hk => hk.2) (.bool t393)) (fun _ hk => hk.2) (.slice Ao30 t394.length co30)) (fun _ hk => hk.2) (.slice Ao32 t397.length co32)) (fun _ hk => hk.1.1.1.1.1.1.1)⟩, ⟨by (with_reducible repeat (first | apply Kd.R_alloc | apply Kd.R_drewN | apply Kd.R_drew)); exact Kd.R_mono (Kd.R_far (p := ⟨gb376, 2, none⟩) (Kd.R_far (p := ⟨gb376, 1, none⟩) (Kd.R_far (p := ⟨gb376, 0, none⟩) (Kd.R_types HO399.out BK376.out (by decide)) (fun _ hk => hk.2) (.bool t393)) (fun _ hk => hk.2) (.slice Ao30 t394.length co30)) (fun _ hk => hk.2) (.slice Ao32 t397.length co32)) (fun _ hk => hk.1.1.1.1.1.1.1)⟩, ⟨by (with_reducible repeat (first | refine z06q ?_ _ | refine z07q ?_ | refine z05q ?_ _)); refine blk_far ?_ NB368_376.out _; (with_reducible repeat (first | refine z06q ?_ _ | refine z07q ?_ | refine z05q ?_ _)); refine blk_far ?_ NB368_376.out _; (with_reducible repeat (first | refine z06q ?_ _ | refine z07q ?_ | refine z05q ?_ _)); refine blk_far ?_ NB368_376.out _; (with_reducible repeat (first | refine z06q ?_ _ | refine z07q ?_ | refine z05q ?_ _)); exact BK368.out⟩, ⟨by (with_reducible repeat (first | refine z06q ?_ _ | refine z07q ?_ | refine z05q ?_ _)); refine blk_put (cs := #[.bool t393, .slice Ao30 t394.length co30, .slice Ao25 x377002_1.length co25]) ?_ 2 _ rfl; (with_reducible repeat (first | refine z06q ?_ _ | refine z07q ?_ | refine z05q ?_ _)); refine blk_put (cs := #[.bool t393, .slice Ao24 x377001_1.length co24, .slice Ao25 x377002_1.length co25]) ?_ 1 _ rfl; (with_reducible repeat (first | refine z06q ?_ _ | refine z07q ?_ | refine z05q ?_ _)); refine blk_put (cs := #[.bool x377000_1, .slice Ao24 x377001_1.length co24, .slice Ao25 x377002_1.length co25]) ?_ 0 _ rfl; (with_reducible repeat (first | refine z06q ?_ _ | refine z07q ?_ | refine z05q ?_ _)); exact BK376.out⟩, ⟨by repeat (first | (with_reducible first | exact HB.out | apply z02q | apply z00q | apply z01q | refine z03q ?_ GE368.out | refine z03q ?_ GE376.out) | exact HB.out)⟩⟩
            · rw [if_neg c15] at H
              exact absurd H (by simp)
          · rw [if_neg c14] at H
            exact absurd H (by simp)
        · rw [if_neg c13] at H
          exact absurd H (by simp)
      · rw [if_neg c12] at H
        have c12b0 : decide (x13_1 < ji4) = false := decide_eq_false c12
        clear c12
        simp only [Option.some.injEq, Prod.mk.injEq] at H
        obtain ⟨rfl, rfl, rfl⟩ := H
        have hnb34 := NB376_368.out
        have hnc34 := NB368_376.out
        have hcz35_0 : wr.cell? ⟨gb376, 0, none⟩ = some (.bool x377000_1) := (z04q BK376.out 0).trans rfl
        have hcz35_1 : wr.cell? ⟨gb376, 1, none⟩ = some (u377001) := (z04q BK376.out 1).trans rfl
        have hcz35_2 : wr.cell? ⟨gb376, 2, none⟩ = some (u377002) := (z04q BK376.out 2).trans rfl
        have hfz35_0 := z08q BK376.out 0
        have hfz35_1 := z08q BK376.out 1
        have hfz35_2 := z08q BK376.out 2
        have hcz36_0 : wr.cell? ⟨gb368, 0, none⟩ = some (.bool false) := (z04q BK368.out 0).trans rfl
        have hcz36_1 : wr.cell? ⟨gb368, 1, none⟩ = some (.slice none 0 0) := (z04q BK368.out 1).trans rfl
        have hcz36_2 : wr.cell? ⟨gb368, 2, none⟩ = some (.slice none 0 0) := (z04q BK368.out 2).trans rfl
        have hfz36_0 := z08q BK368.out 0
        have hfz36_1 := z08q BK368.out 1
        have hfz36_2 := z08q BK368.out 2
        obtain ⟨Ao37, co37, eo37⟩ := Kd.R_slice HO_377001.out
        subst eo37
        obtain ⟨Ao38, co38, eo38⟩ := Kd.R_slice HO_377002.out
        subst eo38
        go_wp2
        refine bodyPost_ret (results_cell_row rfl _ _ gb368 39 #[.bool x377000_1, .slice Ao37 x377001_1.length co37, .slice Ao38 x377002_1.length co38] (0, 0) _ rfl (by (with_reducible repeat (first | refine z06q ?_ _ | refine z07q ?_ | refine z05q ?_ _)); refine blk_put (cs := #[.bool x377000_1, .slice Ao37 x377001_1.length co37, .slice none 0 0]) ?_ 2 _ rfl; (with_reducible repeat (first | refine z06q ?_ _ | refine z07q ?_ | refine z05q ?_ _)); refine blk_put (cs := #[.bool x377000_1, .slice none 0 0, .slice none 0 0]) ?_ 1 _ rfl; (with_reducible repeat (first | refine z06q ?_ _ | refine z07q ?_ | refine z05q ?_ _)); refine blk_put (cs := #[.bool false, .slice none 0 0, .slice none 0 0]) ?_ 0 _ rfl; (with_reducible repeat (first | refine z06q ?_ _ | refine z07q ?_ | refine z05q ?_ _)); exact BK368.out) Try.underlying39 rfl (by kernel_rfl)) rfl ?_
        exact ⟨_, _, by first | rfl | (simp [z14q, z13q] <;> rfl) | (simp only [← hji4]; first | rfl | (simp [z14q, z13q] <;> rfl)) | (simp [*, z14q, z13q] <;> rfl), by (with_reducible repeat (first | apply Kd.R_alloc | apply Kd.R_drewN | apply Kd.R_drew)); exact Kd.R_mono (Kd.R_far (p := ⟨gb368, 2, none⟩) (Kd.R_far (p := ⟨gb368, 1, none⟩) (Kd.R_far (p := ⟨gb368, 0, none⟩) (Kd.R_types HO_377001.out BK368.out (by decide)) (fun _ hk => hk.2) (.bool x377000_1)) (fun _ hk => hk.2) (.slice Ao37 x377001_1.length co37)) (fun _ hk => hk.2) (.slice Ao38 x377002_1.length co38)) (fun _ hk => hk.1), by (with_reducible repeat (first | apply Kd.R_alloc | apply Kd.R_drewN | apply Kd.R_drew)); exact Kd.R_mono (Kd.R_far (p := ⟨gb368, 2, none⟩) (Kd.R_far (p := ⟨gb368, 1, none⟩) (Kd.R_far (p := ⟨gb368, 0, none⟩) (Kd.R_types HO_377002.out BK368.out (by decide)) (fun _ hk => hk.2) (.bool x377000_1)) (fun _ hk => hk.2) (.slice Ao37 x377001_1.length co37)) (fun _ hk => hk.2) (.slice Ao38 x377002_1.length co38)) (fun _ hk => hk.1), by repeat (first | (with_reducible first | exact HB.out | apply z02q | apply z00q | apply z01q | refine z03q ?_ GE368.out | refine z03q ?_ GE376.out) | exact HB.out)⟩
end Go.Proofs.Ytgnffmbaecabnaa.M
