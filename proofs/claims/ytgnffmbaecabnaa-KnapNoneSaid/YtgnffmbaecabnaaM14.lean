-- Printed by a program of this session's own (wip/myprint.py), out of the kit's print with functions given by hand. Lean checks it.
import Derived.Test.YtgnffmbaecabnaaM0
import Derived.Test.YtgnffmbaecabnaaM8
import Derived.Test.YtgnffmbaecabnaaM9
import Derived.Test.YtgnffmbaecabnaaM10
import Derived.Test.YtgnffmbaecabnaaM11
import Derived.Test.YtgnffmbaecabnaaM12
import Derived.Test.YtgnffmbaecabnaaM13
namespace Go.Proofs.Ytgnffmbaecabnaa.M
open Go.RowKit Go.Shelf Go.Proofs.YtgnffmbaecabnaaW.PrintWords Go.Proofs.YtgnffmbaecabnaaW.PrintLast Go.Proofs.YtgnffmbaecabnaaW.PrintMore
attribute [local go_sem] z33q z31q max_two min_two z28q z27q z32q z30q   -- for this text's walks alone
set_option linter.unusedVariables false
set_option linter.unusedSimpArgs false
def offcutlaw16_KnapNone.j0 : Nat → List (S39) → List Int → Bool → Int → List (S46) → Option (Bool)
  | 0, _, _, _, _, _ => none
  | k + 1, x1, x2, x40, x401000, x401001 => if x40 = true then ((offcutlaw16_awake.f k).bind fun t404 => (some t404)) else ((knap_Best.f x401000 x401001 x1).bind fun bt405 => (if bt405.2.2.2.2 = 0 then ((knap_Worth.f k x1 x2).bind fun bt417 => ((rat_Compare.f k bt405.1 bt405.2.1 bt405.2.2.1 bt417.1 bt417.2.1 bt417.2.2).bind fun t424 => (if t424 ≥ 0 then ((offcutlaw16_awake.f k).bind fun t425 => (some t425)) else (some false)))) else (some false)))
def offcutlaw16_KnapNone.f (k : Nat) (a0_0 : Int) (l0_1 : List (S46)) (l1 : List (S39)) (l2 : List Int) : Option (Bool) := (offcutlaw16_few.f k a0_0 l0_1).bind fun t401 => (if t401 = true then ((offcutlaw05_Few.f k l1).bind fun t402 => (if t402 = true then (if (l2.length : Int) > 4 then (offcutlaw16_KnapNone.j0 k l1 l2 true a0_0 l0_1) else ((knap_Fits.f k a0_0 l0_1 l2).bind fun t403 => (if t403 = true then (if (l1.length : Int) = (l0_1.length : Int) then (offcutlaw16_KnapNone.j0 k l1 l2 (decide (a0_0 > 512)) a0_0 l0_1) else (offcutlaw16_KnapNone.j0 k l1 l2 true a0_0 l0_1)) else (offcutlaw16_KnapNone.j0 k l1 l2 true a0_0 l0_1)))) else (offcutlaw16_KnapNone.j0 k l1 l2 true a0_0 l0_1))) else (offcutlaw16_KnapNone.j0 k l1 l2 true a0_0 l0_1))
theorem offcutlaw16_KnapNone.mono_l : ∀ k, (∀ y0 y1 y2 y3 y4, LeO (offcutlaw16_KnapNone.j0 k y0 y1 y2 y3 y4) (offcutlaw16_KnapNone.j0 (k + 1) y0 y1 y2 y3 y4))
  | 0 => fun _ _ _ _ _ r h => by simp [offcutlaw16_KnapNone.j0] at h
  | k + 1 => by
    have ih0 := offcutlaw16_KnapNone.mono_l k
    · intro y0 y1 y2 y3 y4
      unfold offcutlaw16_KnapNone.j0
      repeat' first
      | (with_reducible exact ih0 _ _ _ _ _)
      | (with_reducible exact knap_Fits.mono _ _ _ _)
      | (with_reducible exact knap_Worth.mono _ _ _)
      | (with_reducible exact offcutlaw05_Few.mono _ _)
      | (with_reducible exact offcutlaw16_awake.mono _)
      | (with_reducible exact offcutlaw16_few.mono _ _ _)
      | (with_reducible exact rat_Compare.mono _ _ _ _ _ _ _)
      | (with_reducible exact LeO.refl _)
      | (with_reducible exact LeO.none _)
      | (with_reducible refine LeO.ite ?_ ?_)
      | (with_reducible refine LeO.bind ?_ (fun _ => ?_))
      | exact ih0 _ _ _ _ _
      | exact knap_Fits.mono _ _ _ _
      | exact knap_Worth.mono _ _ _
      | exact offcutlaw05_Few.mono _ _
      | exact offcutlaw16_awake.mono _
      | exact offcutlaw16_few.mono _ _ _
      | exact rat_Compare.mono _ _ _ _ _ _ _
      | exact LeO.none _
      | refine LeO.ite ?_ ?_
      | refine LeO.bind ?_ (fun _ => ?_)
theorem offcutlaw16_KnapNone.mono : ∀ a0 a1 a2 a3 k, LeO (offcutlaw16_KnapNone.f k a0 a1 a2 a3) (offcutlaw16_KnapNone.f (k + 1) a0 a1 a2 a3) := by
  intro a0 a1 a2 a3 k
  have ih0 := offcutlaw16_KnapNone.mono_l k
  unfold offcutlaw16_KnapNone.f
  repeat' first
      | (with_reducible exact ih0 _ _ _ _ _)
      | (with_reducible exact knap_Fits.mono _ _ _ _)
      | (with_reducible exact knap_Worth.mono _ _ _)
      | (with_reducible exact offcutlaw05_Few.mono _ _)
      | (with_reducible exact offcutlaw16_awake.mono _)
      | (with_reducible exact offcutlaw16_few.mono _ _ _)
      | (with_reducible exact rat_Compare.mono _ _ _ _ _ _ _)
      | (with_reducible exact LeO.refl _)
      | (with_reducible exact LeO.none _)
      | (with_reducible refine LeO.ite ?_ ?_)
      | (with_reducible refine LeO.bind ?_ (fun _ => ?_))
      | exact ih0 _ _ _ _ _
      | exact knap_Fits.mono _ _ _ _
      | exact knap_Worth.mono _ _ _
      | exact offcutlaw05_Few.mono _ _
      | exact offcutlaw16_awake.mono _
      | exact offcutlaw16_few.mono _ _ _
      | exact rat_Compare.mono _ _ _ _ _ _ _
      | exact LeO.none _
      | refine LeO.ite ?_ ?_
      | refine LeO.bind ?_ (fun _ => ?_)
def offcutlaw16_KnapNone.T4 : Bool × List (List Nat × List Nat) := (true, [([], []), ([0], [0]), ([1], [1]), ([2], [2]), ([3, 2], [2, 3]), ([2], [2]), ([2], [2]), ([5, 6, 2, 2], [2, 5, 6]), ([4, 7, 7, 2], [2, 4, 7]), ([8, 2], [2, 8]), ([2, 9], [2, 9]), ([10, 8], [10]), ([11, 11], [11]), ([11, 12], [11, 12]), ([13, 12, 0, 1, 2, 3, 4, 5, 6, 7, 8, 9, 10, 11, 12, 13], [13])])
def offcutlaw16_KnapNone.B4 : List Nat := [0, 1, 3, 7, 15, 7, 7, 103, 255, 511, 1023, 2047, 4095, 8191, 16383]
theorem offcutlaw16_KnapNone.tab4 : rtab .any (opsOf Try.f5 4) = offcutlaw16_KnapNone.T4 := by kernel_rfl
theorem offcutlaw16_KnapNone.bits4 : waitsOk offcutlaw16_KnapNone.T4.2 offcutlaw16_KnapNone.B4 = true := by kernel_rfl
set_option maxHeartbeats 8000000 in
set_option maxRecDepth 100000 in
theorem offcutlaw16_KnapNone.calls (k : Nat) (a0_0 : Int) (A0_1 : Option Addr) (c0_1 : Nat) (l0_1 : List (S46)) (A1 : Option Addr) (c1 : Nat) (l1 : List (S39)) (A2 : Option Addr) (c2 : Nat) (l2 : List Int) (r : Bool) (w : World) (hr0_1 : Kd.C k46 w A0_1 l0_1.length l0_1) (hc0_1 : l0_1.length ≤ c0_1) (hr1 : Kd.C k39 w A1 l1.length l1) (hc1 : l1.length ≤ c1) (hr2 : Kd.C (Kd.int .i64) w A2 l2.length l2) (hc2 : l2.length ≤ c2) (h : offcutlaw16_KnapNone.f k a0_0 l0_1 l1 l2 = some r) :
    Calls Try.prog 5 #[.agg #[.int .i64 a0_0, .slice A0_1 l0_1.length c0_1], .slice A1 l1.length c1, .slice A2 l2.length c2] w fun e w' => e = .returned (.bool r) ∧ Below w.heap.size w w' := by
  have hu24 := Try.underlying24
  have hu41 := Try.underlying41
  have hu39 := Try.underlying39
  have HR0_1 := Aside0.mk hr0_1
  have HC0_1 := Aside0.mk hc0_1
  clear hr0_1 hc0_1
  have HR1 := Aside0.mk hr1
  have HC1 := Aside0.mk hc1
  clear hr1 hc1
  have HR2 := Aside0.mk hr2
  have HC2 := Aside0.mk hc2
  clear hr2 hc2
  have HB := Aside0.mk (Below.refl w.heap.size w)
  have H : ((offcutlaw16_few.f k a0_0 l0_1).bind fun t401 => (if t401 = true then ((offcutlaw05_Few.f k l1).bind fun t402 => (if t402 = true then (if (l2.length : Int) > 4 then (offcutlaw16_KnapNone.j0 k l1 l2 true a0_0 l0_1) else ((knap_Fits.f k a0_0 l0_1 l2).bind fun t403 => (if t403 = true then (if (l1.length : Int) = (l0_1.length : Int) then (offcutlaw16_KnapNone.j0 k l1 l2 (decide (a0_0 > 512)) a0_0 l0_1) else (offcutlaw16_KnapNone.j0 k l1 l2 true a0_0 l0_1)) else (offcutlaw16_KnapNone.j0 k l1 l2 true a0_0 l0_1)))) else (offcutlaw16_KnapNone.j0 k l1 l2 true a0_0 l0_1))) else (offcutlaw16_KnapNone.j0 k l1 l2 true a0_0 l0_1))) = some r := h
  clear h
  have HC4 := Aside0.mk H
  clear H
  go_enter Try.func5, Try.ntmps5
  go_upto_region 1 with (first | ((with_reducible refine z18q (N := 3) rfl ?_); (try (refine z25q (by rfl) ?_; dsimp only)); refine z17q ?hg (N := 3) ?hd (cs := #[.int .i64 a0_0, .slice A0_1 l0_1.length c0_1]) (t := 24) ?hr ?_; (case hd => rfl); (case hg => rfl); (case hr => first | (go_simp; done) | (go_simp; rfl)); intro gb400 hg w5 hbox hb; have n0_ := Aside0.mk (z11q (by repeat (first | (with_reducible first | exact HB.out | apply z02q | apply z00q | apply z01q) | exact HB.out)) hb); have n1_ := Aside0.mk (hbox); have n2_ := Aside0.mk ((by rw [hg]; exact (z10q (by repeat (first | (with_reducible first | exact HB.out | apply z02q | apply z00q | apply z01q) | exact HB.out))) : w.heap.size ≤ gb400)); have n3_ := Aside0.mk ((by rw [hg]; exact (z10q (by repeat (first | (with_reducible first | exact HB.out | apply z02q | apply z00q | apply z01q) | exact HB.out))) : w.heap.size ≤ gb400)); clear HB; have HB := n0_; have BK400 := n1_; have GW400 := n2_; have GE400 := n3_; clear n0_ n1_ n2_ n3_; clear hb hbox hg))
  (try simp only [Act.put, sT_])
  go_cut [40] (fun v40 wc => ∃ (kq : Nat) (x40_3 : Bool), v40 = .bool x40_3 ∧ Aside0 (offcutlaw16_KnapNone.j0 kq l1 l2 x40_3 a0_0 l0_1 = some r) ∧ Aside0 (kq ≤ k) ∧ Aside0 (wc.heap[gb400]? = some (.cells #[.int .i64 a0_0, (.slice A0_1 l0_1.length c0_1)] 24 (0, 0))) ∧ Aside0 (Below w.heap.size w wc))
  case first =>
    have H := HC4.out
    clear HC4
    replace H := Option.bind_eq_some_iff.mp H
    obtain ⟨t401, A60, H⟩ := H
    replace H : (if t401 = true then ((offcutlaw05_Few.f k l1).bind fun t402 => (if t402 = true then (if (l2.length : Int) > 4 then (offcutlaw16_KnapNone.j0 k l1 l2 true a0_0 l0_1) else ((knap_Fits.f k a0_0 l0_1 l2).bind fun t403 => (if t403 = true then (if (l1.length : Int) = (l0_1.length : Int) then (offcutlaw16_KnapNone.j0 k l1 l2 (decide (a0_0 > 512)) a0_0 l0_1) else (offcutlaw16_KnapNone.j0 k l1 l2 true a0_0 l0_1)) else (offcutlaw16_KnapNone.j0 k l1 l2 true a0_0 l0_1)))) else (offcutlaw16_KnapNone.j0 k l1 l2 true a0_0 l0_1))) else (offcutlaw16_KnapNone.j0 k l1 l2 true a0_0 l0_1)) = some r := H
    have A6 := Aside0.mk A60
    clear A60
    by_cases c7 : t401 = true
    · subst c7
      have H1 : ((offcutlaw05_Few.f k l1).bind fun t402 => (if t402 = true then (if (l2.length : Int) > 4 then (offcutlaw16_KnapNone.j0 k l1 l2 true a0_0 l0_1) else ((knap_Fits.f k a0_0 l0_1 l2).bind fun t403 => (if t403 = true then (if (l1.length : Int) = (l0_1.length : Int) then (offcutlaw16_KnapNone.j0 k l1 l2 (decide (a0_0 > 512)) a0_0 l0_1) else (offcutlaw16_KnapNone.j0 k l1 l2 true a0_0 l0_1)) else (offcutlaw16_KnapNone.j0 k l1 l2 true a0_0 l0_1)))) else (offcutlaw16_KnapNone.j0 k l1 l2 true a0_0 l0_1))) = some r := by rw [if_pos rfl] at H; exact H
      clear H
      have H := H1
      clear H1
      replace H := Option.bind_eq_some_iff.mp H
      obtain ⟨t402, A80, H⟩ := H
      replace H : (if t402 = true then (if (l2.length : Int) > 4 then (offcutlaw16_KnapNone.j0 k l1 l2 true a0_0 l0_1) else ((knap_Fits.f k a0_0 l0_1 l2).bind fun t403 => (if t403 = true then (if (l1.length : Int) = (l0_1.length : Int) then (offcutlaw16_KnapNone.j0 k l1 l2 (decide (a0_0 > 512)) a0_0 l0_1) else (offcutlaw16_KnapNone.j0 k l1 l2 true a0_0 l0_1)) else (offcutlaw16_KnapNone.j0 k l1 l2 true a0_0 l0_1)))) else (offcutlaw16_KnapNone.j0 k l1 l2 true a0_0 l0_1)) = some r := H
      have A8 := Aside0.mk A80
      clear A80
      by_cases c9 : t402 = true
      · subst c9
        have H1 : (if (l2.length : Int) > 4 then (offcutlaw16_KnapNone.j0 k l1 l2 true a0_0 l0_1) else ((knap_Fits.f k a0_0 l0_1 l2).bind fun t403 => (if t403 = true then (if (l1.length : Int) = (l0_1.length : Int) then (offcutlaw16_KnapNone.j0 k l1 l2 (decide (a0_0 > 512)) a0_0 l0_1) else (offcutlaw16_KnapNone.j0 k l1 l2 true a0_0 l0_1)) else (offcutlaw16_KnapNone.j0 k l1 l2 true a0_0 l0_1)))) = some r := by rw [if_pos rfl] at H; exact H
        clear H
        have H := H1
        clear H1
        by_cases c10 : (l2.length : Int) > 4
        · rw [if_pos c10] at H
          have c10b0 : decide (4 < (l2.length : Int)) = true := decide_eq_true c10
          have c10b1 : decide (4 < l2.length) = true := decide_eq_true (by omega)
          clear c10
          (first | rw [c10b0] | (simp only [i64_w, i32_w]; rw [c10b0]) | skip)
          have H' := Aside0.mk H
          clear H
          have hcz11_0 : w5.cell? ⟨gb400, 0, none⟩ = some (.int .i64 a0_0) := (z04q BK400.out 0).trans rfl
          have hcz11_1 : w5.cell? ⟨gb400, 1, none⟩ = some (.slice A0_1 l0_1.length c0_1) := (z04q BK400.out 1).trans rfl
          have hfz11_0 := z08q BK400.out 0
          have hfz11_1 := z08q BK400.out 1
          go_wp2_with (first | ((with_reducible refine z16q (f := 6) rfl ?_); refine goesL_ (some 10) rfl rfl Try.func6 (by kernel_rfl) rfl #[.agg #[.int .i64 a0_0, .slice A0_1 l0_1.length c0_1]] rfl (by (try simp only [List.map_toArray, List.map_cons, List.map_nil]); first | done | rfl | (simp only [List.length_drop, List.length_take]; rfl)) ?_; (with_reducible refine (offcutlaw16_few.calls k a0_0 _ _ l0_1 true _ ?side1 ?side2 A6.out).mono ?_); (case side1 => repeat (first | exact (Kd.C_below HR0_1.out HB.out) | (with_reducible refine Kd.C_alloc ?_ _) | (with_reducible refine Kd.C_drewN ?_ _) | (with_reducible refine Kd.C_drew ?_))); (case side2 => exact HC0_1.out); rintro e w12 ⟨rfl, hb⟩; refine ⟨_, rfl, ?_⟩; have n0_ := Aside0.mk (z09q (g := gb400) (o := .cells #[.int .i64 a0_0, .slice A0_1 l0_1.length c0_1] 24 (0, 0)) (by (with_reducible repeat (first | refine z06q ?_ _ | refine z07q ?_ | refine z05q ?_ _)); exact BK400.out) hb); have n1_ := Aside0.mk (z11q (by repeat (first | (with_reducible first | exact HB.out | apply z02q | apply z00q | apply z01q | refine z03q ?_ GE400.out) | exact HB.out)) hb); clear BK400; clear HB; have BK400 := n0_; have HB := n1_; clear n0_ n1_; (try clear hb); (try clear hb2); (try clear hk); (try clear hi)) | (go_at_call 7; (with_reducible refine (offcutlaw05_Few.calls k _ _ l1 true _ ?side1 ?side2 A8.out).mono ?_); (case side1 => repeat (first | exact (Kd.C_below HR1.out HB.out) | (with_reducible refine Kd.C_alloc ?_ _) | (with_reducible refine Kd.C_drewN ?_ _) | (with_reducible refine Kd.C_drew ?_))); (case side2 => exact HC1.out); rintro e w' ⟨rfl, ⟨nd, rfl⟩⟩))
          go_meet
          case rel => exact ⟨_, (true), (by first | rfl | (simp; done) | (simp [*]; done)), H', ⟨by first | omega | exact Nat.le_refl _⟩, ⟨by (with_reducible repeat (first | refine z06q ?_ _ | refine z07q ?_ | refine z05q ?_ _)); exact BK400.out⟩, ⟨by repeat (first | (with_reducible first | exact HB.out | apply z02q | apply z00q | apply z01q | refine z03q ?_ GE400.out) | exact HB.out)⟩⟩
        · rw [if_neg c10] at H
          have c10b0 : decide (4 < (l2.length : Int)) = false := decide_eq_false c10
          have c10b1 : decide (4 < l2.length) = false := decide_eq_false (by omega)
          clear c10
          (first | rw [c10b0] | (simp only [i64_w, i32_w]; rw [c10b0]) | skip)
          replace H := Option.bind_eq_some_iff.mp H
          obtain ⟨t403, A130, H⟩ := H
          replace H : (if t403 = true then (if (l1.length : Int) = (l0_1.length : Int) then (offcutlaw16_KnapNone.j0 k l1 l2 (decide (a0_0 > 512)) a0_0 l0_1) else (offcutlaw16_KnapNone.j0 k l1 l2 true a0_0 l0_1)) else (offcutlaw16_KnapNone.j0 k l1 l2 true a0_0 l0_1)) = some r := H
          have A13 := Aside0.mk A130
          clear A130
          by_cases c14 : t403 = true
          · subst c14
            have H1 : (if (l1.length : Int) = (l0_1.length : Int) then (offcutlaw16_KnapNone.j0 k l1 l2 (decide (a0_0 > 512)) a0_0 l0_1) else (offcutlaw16_KnapNone.j0 k l1 l2 true a0_0 l0_1)) = some r := by rw [if_pos rfl] at H; exact H
            clear H
            have H := H1
            clear H1
            by_cases c15 : (l1.length : Int) = (l0_1.length : Int)
            · rw [if_pos c15] at H
              have c15b0 : ((l1.length : Int) == (l0_1.length : Int)) = true := beq_iff_eq.mpr c15
              have c15b1 : ((l1.length : Int) != (l0_1.length : Int)) = false := bne_eq_false_iff_eq.mpr c15
              have c15b2 : (l1.length == l0_1.length) = true := by first | simpa using c15 | (simp at c15 ⊢; omega)
              clear c15
              have H' := Aside0.mk H
              clear H
              have hcz16_0 : w5.cell? ⟨gb400, 0, none⟩ = some (.int .i64 a0_0) := (z04q BK400.out 0).trans rfl
              have hcz16_1 : w5.cell? ⟨gb400, 1, none⟩ = some (.slice A0_1 l0_1.length c0_1) := (z04q BK400.out 1).trans rfl
              have hfz16_0 := z08q BK400.out 0
              have hfz16_1 := z08q BK400.out 1
              go_wp2_with (first | ((with_reducible refine z16q (f := 6) rfl ?_); refine goesL_ (some 10) rfl rfl Try.func6 (by kernel_rfl) rfl #[.agg #[.int .i64 a0_0, .slice A0_1 l0_1.length c0_1]] rfl (by (try simp only [List.map_toArray, List.map_cons, List.map_nil]); first | done | rfl | (simp only [List.length_drop, List.length_take]; rfl)) ?_; (with_reducible refine (offcutlaw16_few.calls k a0_0 _ _ l0_1 true _ ?side1 ?side2 A6.out).mono ?_); (case side1 => repeat (first | exact (Kd.C_below HR0_1.out HB.out) | (with_reducible refine Kd.C_alloc ?_ _) | (with_reducible refine Kd.C_drewN ?_ _) | (with_reducible refine Kd.C_drew ?_))); (case side2 => exact HC0_1.out); rintro e w17 ⟨rfl, hb⟩; refine ⟨_, rfl, ?_⟩; have n0_ := Aside0.mk (z09q (g := gb400) (o := .cells #[.int .i64 a0_0, .slice A0_1 l0_1.length c0_1] 24 (0, 0)) (by (with_reducible repeat (first | refine z06q ?_ _ | refine z07q ?_ | refine z05q ?_ _)); exact BK400.out) hb); have n1_ := Aside0.mk (z11q (by repeat (first | (with_reducible first | exact HB.out | apply z02q | apply z00q | apply z01q | refine z03q ?_ GE400.out) | exact HB.out)) hb); clear BK400; clear HB; have BK400 := n0_; have HB := n1_; clear n0_ n1_; (try clear hb); (try clear hb2); (try clear hk); (try clear hi)) | (go_at_call 7; (with_reducible refine (offcutlaw05_Few.calls k _ _ l1 true _ ?side1 ?side2 A8.out).mono ?_); (case side1 => repeat (first | exact (Kd.C_below HR1.out HB.out) | (with_reducible refine Kd.C_alloc ?_ _) | (with_reducible refine Kd.C_drewN ?_ _) | (with_reducible refine Kd.C_drew ?_))); (case side2 => exact HC1.out); rintro e w' ⟨rfl, ⟨nd, rfl⟩⟩; have hcz18_0 : w17.cell? ⟨gb400, 0, none⟩ = some (.int .i64 a0_0) := (z04q BK400.out 0).trans rfl; have hcz18_1 : w17.cell? ⟨gb400, 1, none⟩ = some (.slice A0_1 l0_1.length c0_1) := (z04q BK400.out 1).trans rfl; have hfz18_0 := z08q BK400.out 0; have hfz18_1 := z08q BK400.out 1) | (go_at_call 14; (with_reducible refine (knap_Fits.calls k a0_0 _ _ l0_1 _ _ l2 true _ ?side1 ?side2 ?side3 ?side4 A13.out).mono ?_); (case side1 => repeat (first | exact (Kd.C_below HR0_1.out (by repeat (first | (with_reducible first | exact HB.out | apply z02q | apply z00q | apply z01q | refine z03q ?_ GE400.out) | exact HB.out))) | (with_reducible refine Kd.C_alloc ?_ _) | (with_reducible refine Kd.C_drewN ?_ _) | (with_reducible refine Kd.C_drew ?_))); (case side2 => exact HC0_1.out); (case side3 => repeat (first | exact (Kd.C_below HR2.out (by repeat (first | (with_reducible first | exact HB.out | apply z02q | apply z00q | apply z01q | refine z03q ?_ GE400.out) | exact HB.out))) | (with_reducible refine Kd.C_alloc ?_ _) | (with_reducible refine Kd.C_drewN ?_ _) | (with_reducible refine Kd.C_drew ?_))); (case side4 => exact HC2.out); rintro e w19 ⟨rfl, hb⟩; have n0_ := Aside0.mk (z09q (g := gb400) (o := .cells #[.int .i64 a0_0, .slice A0_1 l0_1.length c0_1] 24 (0, 0)) (by (with_reducible repeat (first | refine z06q ?_ _ | refine z07q ?_ | refine z05q ?_ _)); exact BK400.out) hb); have n1_ := Aside0.mk (z11q (by repeat (first | (with_reducible first | exact HB.out | apply z02q | apply z00q | apply z01q | refine z03q ?_ GE400.out) | exact HB.out)) hb); clear BK400; clear HB; have BK400 := n0_; have HB := n1_; clear n0_ n1_; (try clear hb); (try clear hb2); (try clear hk); (try clear hi); have hcz20_0 : w19.cell? ⟨gb400, 0, none⟩ = some (.int .i64 a0_0) := (z04q BK400.out 0).trans rfl; have hcz20_1 : w19.cell? ⟨gb400, 1, none⟩ = some (.slice A0_1 l0_1.length c0_1) := (z04q BK400.out 1).trans rfl; have hfz20_0 := z08q BK400.out 0; have hfz20_1 := z08q BK400.out 1))
              go_meet
              case rel => exact ⟨_, (decide (a0_0 > 512)), (by first | rfl | (simp; done) | (simp [*]; done)), H', ⟨by first | omega | exact Nat.le_refl _⟩, ⟨by (with_reducible repeat (first | refine z06q ?_ _ | refine z07q ?_ | refine z05q ?_ _)); exact BK400.out⟩, ⟨by repeat (first | (with_reducible first | exact HB.out | apply z02q | apply z00q | apply z01q | refine z03q ?_ GE400.out) | exact HB.out)⟩⟩
            · rw [if_neg c15] at H
              have c15b0 : ((l1.length : Int) == (l0_1.length : Int)) = false := beq_eq_false_iff_ne.mpr c15
              have c15b1 : ((l1.length : Int) != (l0_1.length : Int)) = true := bne_iff_ne.mpr c15
              have c15b2 : (l1.length == l0_1.length) = false := by first | simpa using c15 | (simp at c15 ⊢; omega)
              have H' := Aside0.mk H
              clear H
              have hcz21_0 : w5.cell? ⟨gb400, 0, none⟩ = some (.int .i64 a0_0) := (z04q BK400.out 0).trans rfl
              have hcz21_1 : w5.cell? ⟨gb400, 1, none⟩ = some (.slice A0_1 l0_1.length c0_1) := (z04q BK400.out 1).trans rfl
              have hfz21_0 := z08q BK400.out 0
              have hfz21_1 := z08q BK400.out 1
              go_wp2_with (first | ((with_reducible refine z16q (f := 6) rfl ?_); refine goesL_ (some 10) rfl rfl Try.func6 (by kernel_rfl) rfl #[.agg #[.int .i64 a0_0, .slice A0_1 l0_1.length c0_1]] rfl (by (try simp only [List.map_toArray, List.map_cons, List.map_nil]); first | done | rfl | (simp only [List.length_drop, List.length_take]; rfl)) ?_; (with_reducible refine (offcutlaw16_few.calls k a0_0 _ _ l0_1 true _ ?side1 ?side2 A6.out).mono ?_); (case side1 => repeat (first | exact (Kd.C_below HR0_1.out HB.out) | (with_reducible refine Kd.C_alloc ?_ _) | (with_reducible refine Kd.C_drewN ?_ _) | (with_reducible refine Kd.C_drew ?_))); (case side2 => exact HC0_1.out); rintro e w22 ⟨rfl, hb⟩; refine ⟨_, rfl, ?_⟩; have n0_ := Aside0.mk (z09q (g := gb400) (o := .cells #[.int .i64 a0_0, .slice A0_1 l0_1.length c0_1] 24 (0, 0)) (by (with_reducible repeat (first | refine z06q ?_ _ | refine z07q ?_ | refine z05q ?_ _)); exact BK400.out) hb); have n1_ := Aside0.mk (z11q (by repeat (first | (with_reducible first | exact HB.out | apply z02q | apply z00q | apply z01q | refine z03q ?_ GE400.out) | exact HB.out)) hb); clear BK400; clear HB; have BK400 := n0_; have HB := n1_; clear n0_ n1_; (try clear hb); (try clear hb2); (try clear hk); (try clear hi)) | (go_at_call 7; (with_reducible refine (offcutlaw05_Few.calls k _ _ l1 true _ ?side1 ?side2 A8.out).mono ?_); (case side1 => repeat (first | exact (Kd.C_below HR1.out HB.out) | (with_reducible refine Kd.C_alloc ?_ _) | (with_reducible refine Kd.C_drewN ?_ _) | (with_reducible refine Kd.C_drew ?_))); (case side2 => exact HC1.out); rintro e w' ⟨rfl, ⟨nd, rfl⟩⟩; have hcz23_0 : w22.cell? ⟨gb400, 0, none⟩ = some (.int .i64 a0_0) := (z04q BK400.out 0).trans rfl; have hcz23_1 : w22.cell? ⟨gb400, 1, none⟩ = some (.slice A0_1 l0_1.length c0_1) := (z04q BK400.out 1).trans rfl; have hfz23_0 := z08q BK400.out 0; have hfz23_1 := z08q BK400.out 1) | (go_at_call 14; (with_reducible refine (knap_Fits.calls k a0_0 _ _ l0_1 _ _ l2 true _ ?side1 ?side2 ?side3 ?side4 A13.out).mono ?_); (case side1 => repeat (first | exact (Kd.C_below HR0_1.out (by repeat (first | (with_reducible first | exact HB.out | apply z02q | apply z00q | apply z01q | refine z03q ?_ GE400.out) | exact HB.out))) | (with_reducible refine Kd.C_alloc ?_ _) | (with_reducible refine Kd.C_drewN ?_ _) | (with_reducible refine Kd.C_drew ?_))); (case side2 => exact HC0_1.out); (case side3 => repeat (first | exact (Kd.C_below HR2.out (by repeat (first | (with_reducible first | exact HB.out | apply z02q | apply z00q | apply z01q | refine z03q ?_ GE400.out) | exact HB.out))) | (with_reducible refine Kd.C_alloc ?_ _) | (with_reducible refine Kd.C_drewN ?_ _) | (with_reducible refine Kd.C_drew ?_))); (case side4 => exact HC2.out); rintro e w24 ⟨rfl, hb⟩; have n0_ := Aside0.mk (z09q (g := gb400) (o := .cells #[.int .i64 a0_0, .slice A0_1 l0_1.length c0_1] 24 (0, 0)) (by (with_reducible repeat (first | refine z06q ?_ _ | refine z07q ?_ | refine z05q ?_ _)); exact BK400.out) hb); have n1_ := Aside0.mk (z11q (by repeat (first | (with_reducible first | exact HB.out | apply z02q | apply z00q | apply z01q | refine z03q ?_ GE400.out) | exact HB.out)) hb); clear BK400; clear HB; have BK400 := n0_; have HB := n1_; clear n0_ n1_; (try clear hb); (try clear hb2); (try clear hk); (try clear hi); have hcz25_0 : w24.cell? ⟨gb400, 0, none⟩ = some (.int .i64 a0_0) := (z04q BK400.out 0).trans rfl; have hcz25_1 : w24.cell? ⟨gb400, 1, none⟩ = some (.slice A0_1 l0_1.length c0_1) := (z04q BK400.out 1).trans rfl; have hfz25_0 := z08q BK400.out 0; have hfz25_1 := z08q BK400.out 1))
              go_meet
              case rel => exact ⟨_, (true), (by first | rfl | (simp; done) | (simp [*]; done)), H', ⟨by first | omega | exact Nat.le_refl _⟩, ⟨by (with_reducible repeat (first | refine z06q ?_ _ | refine z07q ?_ | refine z05q ?_ _)); exact BK400.out⟩, ⟨by repeat (first | (with_reducible first | exact HB.out | apply z02q | apply z00q | apply z01q | refine z03q ?_ GE400.out) | exact HB.out)⟩⟩
          · replace c14 := Bool.eq_false_iff.mpr c14
            subst c14
            have H1 : (offcutlaw16_KnapNone.j0 k l1 l2 true a0_0 l0_1) = some r := by rw [if_neg (show ¬ (false = true) by decide)] at H; exact H
            clear H
            have H := H1
            clear H1
            have H' := Aside0.mk H
            clear H
            have hcz26_0 : w5.cell? ⟨gb400, 0, none⟩ = some (.int .i64 a0_0) := (z04q BK400.out 0).trans rfl
            have hcz26_1 : w5.cell? ⟨gb400, 1, none⟩ = some (.slice A0_1 l0_1.length c0_1) := (z04q BK400.out 1).trans rfl
            have hfz26_0 := z08q BK400.out 0
            have hfz26_1 := z08q BK400.out 1
            go_wp2_with (first | ((with_reducible refine z16q (f := 6) rfl ?_); refine goesL_ (some 10) rfl rfl Try.func6 (by kernel_rfl) rfl #[.agg #[.int .i64 a0_0, .slice A0_1 l0_1.length c0_1]] rfl (by (try simp only [List.map_toArray, List.map_cons, List.map_nil]); first | done | rfl | (simp only [List.length_drop, List.length_take]; rfl)) ?_; (with_reducible refine (offcutlaw16_few.calls k a0_0 _ _ l0_1 true _ ?side1 ?side2 A6.out).mono ?_); (case side1 => repeat (first | exact (Kd.C_below HR0_1.out HB.out) | (with_reducible refine Kd.C_alloc ?_ _) | (with_reducible refine Kd.C_drewN ?_ _) | (with_reducible refine Kd.C_drew ?_))); (case side2 => exact HC0_1.out); rintro e w27 ⟨rfl, hb⟩; refine ⟨_, rfl, ?_⟩; have n0_ := Aside0.mk (z09q (g := gb400) (o := .cells #[.int .i64 a0_0, .slice A0_1 l0_1.length c0_1] 24 (0, 0)) (by (with_reducible repeat (first | refine z06q ?_ _ | refine z07q ?_ | refine z05q ?_ _)); exact BK400.out) hb); have n1_ := Aside0.mk (z11q (by repeat (first | (with_reducible first | exact HB.out | apply z02q | apply z00q | apply z01q | refine z03q ?_ GE400.out) | exact HB.out)) hb); clear BK400; clear HB; have BK400 := n0_; have HB := n1_; clear n0_ n1_; (try clear hb); (try clear hb2); (try clear hk); (try clear hi)) | (go_at_call 7; (with_reducible refine (offcutlaw05_Few.calls k _ _ l1 true _ ?side1 ?side2 A8.out).mono ?_); (case side1 => repeat (first | exact (Kd.C_below HR1.out HB.out) | (with_reducible refine Kd.C_alloc ?_ _) | (with_reducible refine Kd.C_drewN ?_ _) | (with_reducible refine Kd.C_drew ?_))); (case side2 => exact HC1.out); rintro e w' ⟨rfl, ⟨nd, rfl⟩⟩; have hcz28_0 : w27.cell? ⟨gb400, 0, none⟩ = some (.int .i64 a0_0) := (z04q BK400.out 0).trans rfl; have hcz28_1 : w27.cell? ⟨gb400, 1, none⟩ = some (.slice A0_1 l0_1.length c0_1) := (z04q BK400.out 1).trans rfl; have hfz28_0 := z08q BK400.out 0; have hfz28_1 := z08q BK400.out 1) | (go_at_call 14; (with_reducible refine (knap_Fits.calls k a0_0 _ _ l0_1 _ _ l2 false _ ?side1 ?side2 ?side3 ?side4 A13.out).mono ?_); (case side1 => repeat (first | exact (Kd.C_below HR0_1.out (by repeat (first | (with_reducible first | exact HB.out | apply z02q | apply z00q | apply z01q | refine z03q ?_ GE400.out) | exact HB.out))) | (with_reducible refine Kd.C_alloc ?_ _) | (with_reducible refine Kd.C_drewN ?_ _) | (with_reducible refine Kd.C_drew ?_))); (case side2 => exact HC0_1.out); (case side3 => repeat (first | exact (Kd.C_below HR2.out (by repeat (first | (with_reducible first | exact HB.out | apply z02q | apply z00q | apply z01q | refine z03q ?_ GE400.out) | exact HB.out))) | (with_reducible refine Kd.C_alloc ?_ _) | (with_reducible refine Kd.C_drewN ?_ _) | (with_reducible refine Kd.C_drew ?_))); (case side4 => exact HC2.out); rintro e w29 ⟨rfl, hb⟩; have n0_ := Aside0.mk (z09q (g := gb400) (o := .cells #[.int .i64 a0_0, .slice A0_1 l0_1.length c0_1] 24 (0, 0)) (by (with_reducible repeat (first | refine z06q ?_ _ | refine z07q ?_ | refine z05q ?_ _)); exact BK400.out) hb); have n1_ := Aside0.mk (z11q (by repeat (first | (with_reducible first | exact HB.out | apply z02q | apply z00q | apply z01q | refine z03q ?_ GE400.out) | exact HB.out)) hb); clear BK400; clear HB; have BK400 := n0_; have HB := n1_; clear n0_ n1_; (try clear hb); (try clear hb2); (try clear hk); (try clear hi)))
            go_meet
            case rel => exact ⟨_, (true), (by first | rfl | (simp; done) | (simp [*]; done)), H', ⟨by first | omega | exact Nat.le_refl _⟩, ⟨by (with_reducible repeat (first | refine z06q ?_ _ | refine z07q ?_ | refine z05q ?_ _)); exact BK400.out⟩, ⟨by repeat (first | (with_reducible first | exact HB.out | apply z02q | apply z00q | apply z01q | refine z03q ?_ GE400.out) | exact HB.out)⟩⟩
      · replace c9 := Bool.eq_false_iff.mpr c9
        subst c9
        have H1 : (offcutlaw16_KnapNone.j0 k l1 l2 true a0_0 l0_1) = some r := by rw [if_neg (show ¬ (false = true) by decide)] at H; exact H
        clear H
        have H := H1
        clear H1
        have H' := Aside0.mk H
        clear H
        have hcz30_0 : w5.cell? ⟨gb400, 0, none⟩ = some (.int .i64 a0_0) := (z04q BK400.out 0).trans rfl
        have hcz30_1 : w5.cell? ⟨gb400, 1, none⟩ = some (.slice A0_1 l0_1.length c0_1) := (z04q BK400.out 1).trans rfl
        have hfz30_0 := z08q BK400.out 0
        have hfz30_1 := z08q BK400.out 1
        go_wp2_with (first | ((with_reducible refine z16q (f := 6) rfl ?_); refine goesL_ (some 10) rfl rfl Try.func6 (by kernel_rfl) rfl #[.agg #[.int .i64 a0_0, .slice A0_1 l0_1.length c0_1]] rfl (by (try simp only [List.map_toArray, List.map_cons, List.map_nil]); first | done | rfl | (simp only [List.length_drop, List.length_take]; rfl)) ?_; (with_reducible refine (offcutlaw16_few.calls k a0_0 _ _ l0_1 true _ ?side1 ?side2 A6.out).mono ?_); (case side1 => repeat (first | exact (Kd.C_below HR0_1.out HB.out) | (with_reducible refine Kd.C_alloc ?_ _) | (with_reducible refine Kd.C_drewN ?_ _) | (with_reducible refine Kd.C_drew ?_))); (case side2 => exact HC0_1.out); rintro e w31 ⟨rfl, hb⟩; refine ⟨_, rfl, ?_⟩; have n0_ := Aside0.mk (z09q (g := gb400) (o := .cells #[.int .i64 a0_0, .slice A0_1 l0_1.length c0_1] 24 (0, 0)) (by (with_reducible repeat (first | refine z06q ?_ _ | refine z07q ?_ | refine z05q ?_ _)); exact BK400.out) hb); have n1_ := Aside0.mk (z11q (by repeat (first | (with_reducible first | exact HB.out | apply z02q | apply z00q | apply z01q | refine z03q ?_ GE400.out) | exact HB.out)) hb); clear BK400; clear HB; have BK400 := n0_; have HB := n1_; clear n0_ n1_; (try clear hb); (try clear hb2); (try clear hk); (try clear hi)) | (go_at_call 7; (with_reducible refine (offcutlaw05_Few.calls k _ _ l1 false _ ?side1 ?side2 A8.out).mono ?_); (case side1 => repeat (first | exact (Kd.C_below HR1.out HB.out) | (with_reducible refine Kd.C_alloc ?_ _) | (with_reducible refine Kd.C_drewN ?_ _) | (with_reducible refine Kd.C_drew ?_))); (case side2 => exact HC1.out); rintro e w' ⟨rfl, ⟨nd, rfl⟩⟩))
        go_meet
        case rel => exact ⟨_, (true), (by first | rfl | (simp; done) | (simp [*]; done)), H', ⟨by first | omega | exact Nat.le_refl _⟩, ⟨by (with_reducible repeat (first | refine z06q ?_ _ | refine z07q ?_ | refine z05q ?_ _)); exact BK400.out⟩, ⟨by repeat (first | (with_reducible first | exact HB.out | apply z02q | apply z00q | apply z01q | refine z03q ?_ GE400.out) | exact HB.out)⟩⟩
    · replace c7 := Bool.eq_false_iff.mpr c7
      subst c7
      have H1 : (offcutlaw16_KnapNone.j0 k l1 l2 true a0_0 l0_1) = some r := by rw [if_neg (show ¬ (false = true) by decide)] at H; exact H
      clear H
      have H := H1
      clear H1
      have H' := Aside0.mk H
      clear H
      have hcz32_0 : w5.cell? ⟨gb400, 0, none⟩ = some (.int .i64 a0_0) := (z04q BK400.out 0).trans rfl
      have hcz32_1 : w5.cell? ⟨gb400, 1, none⟩ = some (.slice A0_1 l0_1.length c0_1) := (z04q BK400.out 1).trans rfl
      have hfz32_0 := z08q BK400.out 0
      have hfz32_1 := z08q BK400.out 1
      go_wp2_with (first | ((with_reducible refine z16q (f := 6) rfl ?_); refine goesL_ (some 10) rfl rfl Try.func6 (by kernel_rfl) rfl #[.agg #[.int .i64 a0_0, .slice A0_1 l0_1.length c0_1]] rfl (by (try simp only [List.map_toArray, List.map_cons, List.map_nil]); first | done | rfl | (simp only [List.length_drop, List.length_take]; rfl)) ?_; (with_reducible refine (offcutlaw16_few.calls k a0_0 _ _ l0_1 false _ ?side1 ?side2 A6.out).mono ?_); (case side1 => repeat (first | exact (Kd.C_below HR0_1.out HB.out) | (with_reducible refine Kd.C_alloc ?_ _) | (with_reducible refine Kd.C_drewN ?_ _) | (with_reducible refine Kd.C_drew ?_))); (case side2 => exact HC0_1.out); rintro e w33 ⟨rfl, hb⟩; refine ⟨_, rfl, ?_⟩; have n0_ := Aside0.mk (z09q (g := gb400) (o := .cells #[.int .i64 a0_0, .slice A0_1 l0_1.length c0_1] 24 (0, 0)) (by (with_reducible repeat (first | refine z06q ?_ _ | refine z07q ?_ | refine z05q ?_ _)); exact BK400.out) hb); have n1_ := Aside0.mk (z11q (by repeat (first | (with_reducible first | exact HB.out | apply z02q | apply z00q | apply z01q | refine z03q ?_ GE400.out) | exact HB.out)) hb); clear BK400; clear HB; have BK400 := n0_; have HB := n1_; clear n0_ n1_; (try clear hb); (try clear hb2); (try clear hk); (try clear hi)))
      go_meet
      case rel => exact ⟨_, (true), (by first | rfl | (simp; done) | (simp [*]; done)), H', ⟨by first | omega | exact Nat.le_refl _⟩, ⟨by (with_reducible repeat (first | refine z06q ?_ _ | refine z07q ?_ | refine z05q ?_ _)); exact BK400.out⟩, ⟨by repeat (first | (with_reducible first | exact HB.out | apply z02q | apply z00q | apply z01q | refine z03q ?_ GE400.out) | exact HB.out)⟩⟩
  case rest =>
    clear HC4
    try clear c1
    try clear c2
    try clear p2
    try clear c5
    try clear c6
    try clear c7
    try clear c9
    try clear c10
    try clear c10b0
    try clear c10b1
    try clear c14
    try clear c15
    try clear c15b0
    try clear c15b1
    try clear c15b2
    try clear hcz11_0
    try clear hcz11_1
    try clear hcz16_0
    try clear hcz16_1
    try clear hcz18_0
    try clear hcz18_1
    try clear hcz20_0
    try clear hcz20_1
    try clear hcz21_0
    try clear hcz21_1
    try clear hcz23_0
    try clear hcz23_1
    try clear hcz25_0
    try clear hcz25_1
    try clear hcz26_0
    try clear hcz26_1
    try clear hcz28_0
    try clear hcz28_1
    try clear hcz30_0
    try clear hcz30_1
    try clear hcz32_0
    try clear hcz32_1
    try clear hfz11_0
    try clear hfz11_1
    try clear hfz16_0
    try clear hfz16_1
    try clear hfz18_0
    try clear hfz18_1
    try clear hfz20_0
    try clear hfz20_1
    try clear hfz21_0
    try clear hfz21_1
    try clear hfz23_0
    try clear hfz23_1
    try clear hfz25_0
    try clear hfz25_1
    try clear hfz26_0
    try clear hfz26_1
    try clear hfz28_0
    try clear hfz28_1
    try clear hfz30_0
    try clear hfz30_1
    try clear hfz32_0
    try clear hfz32_1
    obtain ⟨kq, x40_3, rfl, HA, HJ3, BK400, HB⟩ := hcut
    cases kq with
    | zero => exact absurd HA.out (by simp [offcutlaw16_KnapNone.j0])
    | succ kj3 =>
      have H := HA.out
      clear HA
      simp only [offcutlaw16_KnapNone.j0] at H
      by_cases c34 : x40_3 = true
      · subst c34
        have H1 : ((offcutlaw16_awake.f kj3).bind fun t404 => (some t404)) = some r := by rw [if_pos rfl] at H; exact H
        clear H
        have H := H1
        clear H1
        replace H := Option.bind_eq_some_iff.mp H
        obtain ⟨t404, A350, H⟩ := H
        replace H : (some t404) = some r := H
        have A35 := Aside0.mk A350
        clear A350
        obtain rfl := Option.some.inj H
        go_wp2_with (first | ((with_reducible refine z16q (f := 10) rfl ?_); refine goesL_ (some 41) rfl rfl Try.func10 (by kernel_rfl) rfl #[] rfl (by (try simp only [List.map_toArray, List.map_cons, List.map_nil]); first | done | rfl | (simp only [List.length_drop, List.length_take]; rfl)) ?_; (with_reducible refine (offcutlaw16_awake.calls kj3  t404 _ A35.out).mono ?_); rintro e w36 ⟨rfl, hb⟩; refine ⟨_, rfl, ?_⟩; have n0_ := Aside0.mk (z09q (g := gb400) (o := .cells #[.int .i64 a0_0, .slice A0_1 l0_1.length c0_1] 24 (0, 0)) (by (with_reducible repeat (first | refine z06q ?_ _ | refine z07q ?_ | refine z05q ?_ _)); exact BK400.out) hb); have n1_ := Aside0.mk (z11q (by repeat (first | (with_reducible first | exact HB.out | apply z02q | apply z00q | apply z01q | refine z03q ?_ GE400.out) | exact HB.out)) hb); clear BK400; clear HB; have BK400 := n0_; have HB := n1_; clear n0_ n1_; (try clear hb); (try clear hb2); (try clear hk); (try clear hi)))
        go_ret
        exact ⟨by first | rfl | (simp [z14q, z13q] <;> rfl) | (simp [*, z14q, z13q] <;> rfl), by repeat (first | (with_reducible first | exact HB.out | apply z02q | apply z00q | apply z01q | refine z03q ?_ GE400.out) | exact HB.out)⟩
      · replace c34 := Bool.eq_false_iff.mpr c34
        subst c34
        have H1 : ((knap_Best.f a0_0 l0_1 l1).bind fun bt405 => (if bt405.2.2.2.2 = 0 then ((knap_Worth.f kj3 l1 l2).bind fun bt417 => ((rat_Compare.f kj3 bt405.1 bt405.2.1 bt405.2.2.1 bt417.1 bt417.2.1 bt417.2.2).bind fun t424 => (if t424 ≥ 0 then ((offcutlaw16_awake.f kj3).bind fun t425 => (some t425)) else (some false)))) else (some false))) = some r := by rw [if_neg (show ¬ (false = true) by decide)] at H; exact H
        clear H
        have H := H1
        clear H1
        replace H := Option.bind_eq_some_iff.mp H
        obtain ⟨⟨t405, t406, t409, t412, t415⟩, A370, H⟩ := H
        replace H : (if t415 = 0 then ((knap_Worth.f kj3 l1 l2).bind fun bt417 => ((rat_Compare.f kj3 t405 t406 t409 bt417.1 bt417.2.1 bt417.2.2).bind fun t424 => (if t424 ≥ 0 then ((offcutlaw16_awake.f kj3).bind fun t425 => (some t425)) else (some false)))) else (some false)) = some r := H
        have A37 := Aside0.mk A370
        clear A370
        by_cases c38 : t415 = 0
        · rw [if_pos c38] at H
          have c38b0 : (t415 == 0) = true := beq_iff_eq.mpr c38
          have c38b1 : (t415 != 0) = false := bne_eq_false_iff_eq.mpr c38
          clear c38
          replace H := Option.bind_eq_some_iff.mp H
          obtain ⟨⟨t417, t418, t421⟩, A390, H⟩ := H
          replace H : ((rat_Compare.f kj3 t405 t406 t409 t417 t418 t421).bind fun t424 => (if t424 ≥ 0 then ((offcutlaw16_awake.f kj3).bind fun t425 => (some t425)) else (some false))) = some r := H
          have A39 := Aside0.mk A390
          clear A390
          replace H := Option.bind_eq_some_iff.mp H
          obtain ⟨t424, A400, H⟩ := H
          replace H : (if t424 ≥ 0 then ((offcutlaw16_awake.f kj3).bind fun t425 => (some t425)) else (some false)) = some r := H
          have A40 := Aside0.mk A400
          clear A400
          by_cases c41 : t424 ≥ 0
          · rw [if_pos c41] at H
            have c41b0 : decide (0 ≤ t424) = true := decide_eq_true c41
            clear c41
            replace H := Option.bind_eq_some_iff.mp H
            obtain ⟨t425, A420, H⟩ := H
            replace H : (some t425) = some r := H
            have A42 := Aside0.mk A420
            clear A420
            obtain rfl := Option.some.inj H
            have hcz43_0 : wc.cell? ⟨gb400, 0, none⟩ = some (.int .i64 a0_0) := (z04q BK400.out 0).trans rfl
            have hcz43_1 : wc.cell? ⟨gb400, 1, none⟩ = some (.slice A0_1 l0_1.length c0_1) := (z04q BK400.out 1).trans rfl
            have hfz43_0 := z08q BK400.out 0
            have hfz43_1 := z08q BK400.out 1
            try go_wp2_with (first | ((with_reducible refine z16q (f := 11) rfl ?_); refine goesL_ (some 45) rfl rfl Try.func11 (by kernel_rfl) rfl #[.agg #[.int .i64 a0_0, .slice A0_1 l0_1.length c0_1], .slice A1 l1.length c1] rfl (by (try simp only [List.map_toArray, List.map_cons, List.map_nil]); first | done | rfl | (simp only [List.length_drop, List.length_take]; rfl)) ?_; (with_reducible refine (knap_Best.calls a0_0 _ _ l0_1 _ _ l1 t405 t406 t409 t412 t415 _ ?side1 ?side2 ?side3 ?side4 A37.out).mono ?_); (case side1 => repeat (first | exact (Kd.C_below HR0_1.out HB.out) | (with_reducible refine Kd.C_alloc ?_ _) | (with_reducible refine Kd.C_drewN ?_ _) | (with_reducible refine Kd.C_drew ?_))); (case side2 => exact HC0_1.out); (case side3 => repeat (first | exact (Kd.C_below HR1.out HB.out) | (with_reducible refine Kd.C_alloc ?_ _) | (with_reducible refine Kd.C_drewN ?_ _) | (with_reducible refine Kd.C_drew ?_))); (case side4 => exact HC1.out); rintro e w44 ⟨v407, v410, v413, rfl, ho0, ho1, ho2, hb⟩; refine ⟨_, rfl, ?_⟩; have n0_ := Aside0.mk (Kd.R_lower ho0 (z10q (by repeat (first | (with_reducible first | exact HB.out | apply z02q | apply z00q | apply z01q | refine z03q ?_ GE400.out) | exact HB.out)))); have n1_ := Aside0.mk (Kd.R_lower ho1 (z10q (by repeat (first | (with_reducible first | exact HB.out | apply z02q | apply z00q | apply z01q | refine z03q ?_ GE400.out) | exact HB.out)))); have n2_ := Aside0.mk (Kd.R_lower ho2 (z10q (by repeat (first | (with_reducible first | exact HB.out | apply z02q | apply z00q | apply z01q | refine z03q ?_ GE400.out) | exact HB.out)))); have n3_ := Aside0.mk (z09q (g := gb400) (o := .cells #[.int .i64 a0_0, .slice A0_1 l0_1.length c0_1] 24 (0, 0)) (by (with_reducible repeat (first | refine z06q ?_ _ | refine z07q ?_ | refine z05q ?_ _)); exact BK400.out) hb); have n4_ := Aside0.mk (z11q (by repeat (first | (with_reducible first | exact HB.out | apply z02q | apply z00q | apply z01q | refine z03q ?_ GE400.out) | exact HB.out)) hb); clear BK400; clear HB; have HO408 := n0_; have HO411 := n1_; have HO414 := n2_; have BK400 := n3_; have HB := n4_; clear n0_ n1_ n2_ n3_ n4_; (try clear hb); (try clear hb2); (try clear hk); (try clear hi); (try clear ho0); (try clear ho1); (try clear ho2)) | ((with_reducible refine z18q (N := 7) rfl ?_); (try (refine z25q (by rfl) ?_; dsimp only)); refine z17q ?hg (N := 7) ?hd (cs := #[.bool false, .slice none 0 0, .slice none 0 0, .slice none 0 0]) (t := 41) ?hr ?_; (case hd => rfl); (case hg => rfl); (case hr => first | (go_simp; done) | (go_simp; rfl)); intro gb416 hg w45 hbox hb; have n0_ := Aside0.mk (Kd.R_below (by (with_reducible repeat (first | apply Kd.R_alloc | apply Kd.R_drewN | apply Kd.R_drew)); exact HO408.out) hb); have n1_ := Aside0.mk (Kd.R_below (by (with_reducible repeat (first | apply Kd.R_alloc | apply Kd.R_drewN | apply Kd.R_drew)); exact HO411.out) hb); have n2_ := Aside0.mk (Kd.R_below (by (with_reducible repeat (first | apply Kd.R_alloc | apply Kd.R_drewN | apply Kd.R_drew)); exact HO414.out) hb); have n3_ := Aside0.mk (z09q (g := gb400) (o := .cells #[.int .i64 a0_0, .slice A0_1 l0_1.length c0_1] 24 (0, 0)) (by (with_reducible repeat (first | refine z06q ?_ _ | refine z07q ?_ | refine z05q ?_ _)); exact BK400.out) hb); have n4_ := Aside0.mk (z11q (by repeat (first | (with_reducible first | exact HB.out | apply z02q | apply z00q | apply z01q | refine z03q ?_ GE400.out) | exact HB.out)) hb); have n5_ := Aside0.mk (hbox); have n6_ := Aside0.mk ((by rw [hg]; exact (z10q (by repeat (first | (with_reducible first | exact HB.out | apply z02q | apply z00q | apply z01q | refine z03q ?_ GE400.out) | exact HB.out))) : w.heap.size ≤ gb416)); have n7_ := Aside0.mk ((by rw [hg]; exact (z10q (by repeat (first | (with_reducible first | exact HB.out | apply z02q | apply z00q | apply z01q | refine z03q ?_ GE400.out) | exact HB.out))) : w.heap.size ≤ gb416)); have n8_ := Aside0.mk ((by rw [hg]; exact Nat.ne_of_lt (blk_lt (g := gb400) (o := .cells #[.int .i64 a0_0, .slice A0_1 l0_1.length c0_1] 24 (0, 0)) (by (with_reducible repeat (first | refine z06q ?_ _ | refine z07q ?_ | refine z05q ?_ _)); exact BK400.out)) : gb400 ≠ gb416)); have n9_ := Aside0.mk ((by rw [hg]; exact Nat.ne_of_gt (blk_lt (g := gb400) (o := .cells #[.int .i64 a0_0, .slice A0_1 l0_1.length c0_1] 24 (0, 0)) (by (with_reducible repeat (first | refine z06q ?_ _ | refine z07q ?_ | refine z05q ?_ _)); exact BK400.out)) : gb416 ≠ gb400)); clear HO408; clear HO411; clear HO414; clear BK400; clear HB; have HO408 := n0_; have HO411 := n1_; have HO414 := n2_; have BK400 := n3_; have HB := n4_; have BK416 := n5_; have GW416 := n6_; have GE416 := n7_; have NB400_416 := n8_; have NB416_400 := n9_; clear n0_ n1_ n2_ n3_ n4_ n5_ n6_ n7_ n8_ n9_; clear hb hbox hg; have hnb46 := NB416_400.out; have hnc46 := NB400_416.out; have hcz47_0 : w45.cell? ⟨gb416, 0, none⟩ = some (.bool false) := (z04q BK416.out 0).trans rfl; have hcz47_1 : w45.cell? ⟨gb416, 1, none⟩ = some (.slice none 0 0) := (z04q BK416.out 1).trans rfl; have hcz47_2 : w45.cell? ⟨gb416, 2, none⟩ = some (.slice none 0 0) := (z04q BK416.out 2).trans rfl; have hcz47_3 : w45.cell? ⟨gb416, 3, none⟩ = some (.slice none 0 0) := (z04q BK416.out 3).trans rfl; have hfz47_0 := z08q BK416.out 0; have hfz47_1 := z08q BK416.out 1; have hfz47_2 := z08q BK416.out 2; have hfz47_3 := z08q BK416.out 3; obtain ⟨Ao48, co48, eo48⟩ := Kd.R_slice HO408.out; subst eo48; obtain ⟨Ao49, co49, eo49⟩ := Kd.R_slice HO411.out; subst eo49; obtain ⟨Ao50, co50, eo50⟩ := Kd.R_slice HO414.out; subst eo50))
            have n0_ : Aside0 (Kd.R (Kd.int .u32) 96 ((((w45.setCell ⟨gb416, 0, none⟩ (.bool t405)).setCell ⟨gb416, 1, none⟩ (.slice Ao48 t406.length co48)).setCell ⟨gb416, 2, none⟩ (.slice Ao49 t409.length co49)).setCell ⟨gb416, 3, none⟩ (.slice Ao50 t412.length co50)) w.heap.size (fun k_ => some k_ ≠ (.slice Ao49 t409.length co49 : Value).ownBlock) (.slice Ao48 t406.length co48) t406) := ⟨by (with_reducible repeat (first | apply Kd.R_alloc | apply Kd.R_drewN | apply Kd.R_drew)); exact Kd.R_mono (Kd.R_far (p := ⟨gb416, 3, none⟩) (Kd.R_far (p := ⟨gb416, 2, none⟩) (Kd.R_far (p := ⟨gb416, 1, none⟩) (Kd.R_far (p := ⟨gb416, 0, none⟩) (Kd.R_types HO408.out BK416.out (by decide)) (fun _ hk => hk.2) (.bool t405)) (fun _ hk => hk.2) (.slice Ao48 t406.length co48)) (fun _ hk => hk.2) (.slice Ao49 t409.length co49)) (fun _ hk => hk.2) (.slice Ao50 t412.length co50)) (fun _ hk => by first | exact hk.1 | exact hk.1.1 | exact hk.1.2)⟩
            have n1_ : Aside0 (Kd.R (Kd.int .u32) 96 ((((w45.setCell ⟨gb416, 0, none⟩ (.bool t405)).setCell ⟨gb416, 1, none⟩ (.slice Ao48 t406.length co48)).setCell ⟨gb416, 2, none⟩ (.slice Ao49 t409.length co49)).setCell ⟨gb416, 3, none⟩ (.slice Ao50 t412.length co50)) w.heap.size (fun k_ => some k_ ≠ (.slice Ao48 t406.length co48 : Value).ownBlock) (.slice Ao49 t409.length co49) t409) := ⟨by (with_reducible repeat (first | apply Kd.R_alloc | apply Kd.R_drewN | apply Kd.R_drew)); exact Kd.R_mono (Kd.R_far (p := ⟨gb416, 3, none⟩) (Kd.R_far (p := ⟨gb416, 2, none⟩) (Kd.R_far (p := ⟨gb416, 1, none⟩) (Kd.R_far (p := ⟨gb416, 0, none⟩) (Kd.R_types HO411.out BK416.out (by decide)) (fun _ hk => hk.2) (.bool t405)) (fun _ hk => hk.2) (.slice Ao48 t406.length co48)) (fun _ hk => hk.2) (.slice Ao49 t409.length co49)) (fun _ hk => hk.2) (.slice Ao50 t412.length co50)) (fun _ hk => by first | exact hk.1 | exact hk.1.1 | exact hk.1.2)⟩
            have n2_ : Aside0 (Kd.R (Kd.int .i64) 3 ((((w45.setCell ⟨gb416, 0, none⟩ (.bool t405)).setCell ⟨gb416, 1, none⟩ (.slice Ao48 t406.length co48)).setCell ⟨gb416, 2, none⟩ (.slice Ao49 t409.length co49)).setCell ⟨gb416, 3, none⟩ (.slice Ao50 t412.length co50)) w.heap.size (fun _ => True) (.slice Ao50 t412.length co50) t412) := ⟨by (with_reducible repeat (first | apply Kd.R_alloc | apply Kd.R_drewN | apply Kd.R_drew)); exact Kd.R_mono (Kd.R_far (p := ⟨gb416, 3, none⟩) (Kd.R_far (p := ⟨gb416, 2, none⟩) (Kd.R_far (p := ⟨gb416, 1, none⟩) (Kd.R_far (p := ⟨gb416, 0, none⟩) (Kd.R_types HO414.out BK416.out (by decide)) (fun _ hk => hk.2) (.bool t405)) (fun _ hk => hk.2) (.slice Ao48 t406.length co48)) (fun _ hk => hk.2) (.slice Ao49 t409.length co49)) (fun _ hk => hk.2) (.slice Ao50 t412.length co50)) (fun _ hk => trivial)⟩
            have n3_ : Aside0 (((((w45.setCell ⟨gb416, 0, none⟩ (.bool t405)).setCell ⟨gb416, 1, none⟩ (.slice Ao48 t406.length co48)).setCell ⟨gb416, 2, none⟩ (.slice Ao49 t409.length co49)).setCell ⟨gb416, 3, none⟩ (.slice Ao50 t412.length co50)).heap[gb400]? = some (.cells #[.int .i64 a0_0, .slice A0_1 l0_1.length c0_1] 24 (0, 0))) := ⟨by (with_reducible repeat (first | refine z06q ?_ _ | refine z07q ?_ | refine z05q ?_ _)); refine blk_far ?_ NB400_416.out _; (with_reducible repeat (first | refine z06q ?_ _ | refine z07q ?_ | refine z05q ?_ _)); refine blk_far ?_ NB400_416.out _; (with_reducible repeat (first | refine z06q ?_ _ | refine z07q ?_ | refine z05q ?_ _)); refine blk_far ?_ NB400_416.out _; (with_reducible repeat (first | refine z06q ?_ _ | refine z07q ?_ | refine z05q ?_ _)); refine blk_far ?_ NB400_416.out _; (with_reducible repeat (first | refine z06q ?_ _ | refine z07q ?_ | refine z05q ?_ _)); exact BK400.out⟩
            have n4_ : Aside0 (((((w45.setCell ⟨gb416, 0, none⟩ (.bool t405)).setCell ⟨gb416, 1, none⟩ (.slice Ao48 t406.length co48)).setCell ⟨gb416, 2, none⟩ (.slice Ao49 t409.length co49)).setCell ⟨gb416, 3, none⟩ (.slice Ao50 t412.length co50)).heap[gb416]? = some (.cells #[.bool t405, .slice Ao48 t406.length co48, .slice Ao49 t409.length co49, .slice Ao50 t412.length co50] 41 (0, 0))) := ⟨by (with_reducible repeat (first | refine z06q ?_ _ | refine z07q ?_ | refine z05q ?_ _)); refine blk_put (cs := #[.bool t405, .slice Ao48 t406.length co48, .slice Ao49 t409.length co49, .slice none 0 0]) ?_ 3 _ rfl; (with_reducible repeat (first | refine z06q ?_ _ | refine z07q ?_ | refine z05q ?_ _)); refine blk_put (cs := #[.bool t405, .slice Ao48 t406.length co48, .slice none 0 0, .slice none 0 0]) ?_ 2 _ rfl; (with_reducible repeat (first | refine z06q ?_ _ | refine z07q ?_ | refine z05q ?_ _)); refine blk_put (cs := #[.bool t405, .slice none 0 0, .slice none 0 0, .slice none 0 0]) ?_ 1 _ rfl; (with_reducible repeat (first | refine z06q ?_ _ | refine z07q ?_ | refine z05q ?_ _)); refine blk_put (cs := #[.bool false, .slice none 0 0, .slice none 0 0, .slice none 0 0]) ?_ 0 _ rfl; (with_reducible repeat (first | refine z06q ?_ _ | refine z07q ?_ | refine z05q ?_ _)); exact BK416.out⟩
            have n5_ : Aside0 (Below w.heap.size w ((((w45.setCell ⟨gb416, 0, none⟩ (.bool t405)).setCell ⟨gb416, 1, none⟩ (.slice Ao48 t406.length co48)).setCell ⟨gb416, 2, none⟩ (.slice Ao49 t409.length co49)).setCell ⟨gb416, 3, none⟩ (.slice Ao50 t412.length co50))) := ⟨by repeat (first | (with_reducible first | exact HB.out | apply z02q | apply z00q | apply z01q | refine z03q ?_ GE400.out | refine z03q ?_ GE416.out) | exact HB.out)⟩
            (try clear HO408)
            (try clear HO411)
            (try clear HO414)
            (try clear BK400)
            (try clear BK416)
            (try clear HB)
            generalize ((((w45.setCell ⟨gb416, 0, none⟩ (.bool t405)).setCell ⟨gb416, 1, none⟩ (.slice Ao48 t406.length co48)).setCell ⟨gb416, 2, none⟩ (.slice Ao49 t409.length co49)).setCell ⟨gb416, 3, none⟩ (.slice Ao50 t412.length co50)) = w51 at n0_ n1_ n2_ n3_ n4_ n5_ ⊢
            have HO408 := n0_
            have HO411 := n1_
            have HO414 := n2_
            have BK400 := n3_
            have BK416 := n4_
            have HB := n5_
            clear n0_ n1_ n2_ n3_ n4_ n5_
            have n0_ := Aside0.mk (Kd.R_drew HO408.out)
            have n1_ := Aside0.mk (Kd.R_drew HO411.out)
            have n2_ := Aside0.mk (Kd.R_drew HO414.out)
            have n3_ := Aside0.mk (z07q BK400.out)
            have n4_ := Aside0.mk (z07q BK416.out)
            have n5_ := Aside0.mk (z01q HB.out)
            clear HO408
            clear HO411
            clear HO414
            clear BK400
            clear BK416
            clear HB
            have HO408 := n0_
            have HO411 := n1_
            have HO414 := n2_
            have BK400 := n3_
            have BK416 := n4_
            have HB := n5_
            clear n0_ n1_ n2_ n3_ n4_ n5_
            refine start_ (n := 15) (S := fun w' => w'.cell? ⟨gb416, 0, none⟩ = some (.bool t405) ∧ w'.cell? ⟨gb416, 1, none⟩ = some (.slice Ao48 t406.length co48) ∧ w'.cell? ⟨gb416, 2, none⟩ = some (.slice Ao49 t409.length co49) ∧ w'.cell? ⟨gb416, 3, none⟩ = some (.slice Ao50 t412.length co50)) (ds := []) #[false, false, false, false, false, false, false, false, false, false, false, false, false, false, false] (by kernel_rfl) rfl rfl ⟨(z04q BK416.out 0).trans rfl, (z04q BK416.out 1).trans rfl, (z04q BK416.out 2).trans rfl, (z04q BK416.out 3).trans rfl⟩ (fun hHeld => ?_); refine with_tabW offcutlaw16_KnapNone.tab4 offcutlaw16_KnapNone.bits4 (fun HT_ HW_ => ?_)
            generalize w51.drew = w52 at HO408 HO411 HO414 BK400 BK416 HB hHeld ⊢
            refine pure_ (i := 0) (N := some 48) (v := ?_) (a' := ?_) #[true, false, false, false, false, false, false, false, false, false, false, false, false, false, false] rfl rfl (any_of HT_.out (by kernel_rfl)) (fun _ _ _ h => h) (Or.inl ⟨by rfl, ?_⟩) ?_ ?_
            rotate_left
            · intro w'
              go_simp
              with_reducible rfl
            rotate_left
            · simp only [Act.put, List.setIfInBounds_toArray, List.set_cons_zero, List.set_cons_succ, i64_w, i32_w]
              rfl
            refine pure_ (i := 1) (N := some 49) (v := ?_) (a' := ?_) #[true, true, false, false, false, false, false, false, false, false, false, false, false, false, false] rfl rfl (any_of HT_.out (by kernel_rfl)) (fun _ _ _ h => h) (Or.inl ⟨by rfl, ?_⟩) ?_ ?_
            rotate_left
            · intro w'
              go_simp
              with_reducible rfl
            rotate_left
            · simp only [Act.put, List.setIfInBounds_toArray, List.set_cons_zero, List.set_cons_succ, i64_w, i32_w]
              rfl
            refine pure_ (i := 2) (N := some 50) (v := ?_) (a' := ?_) #[true, true, true, false, false, false, false, false, false, false, false, false, false, false, false] rfl rfl (any_of HT_.out (by kernel_rfl)) (fun _ _ _ h => h) (Or.inl ⟨by rfl, ?_⟩) ?_ ?_
            rotate_left
            · intro w'
              go_simp
              with_reducible rfl
            rotate_left
            · simp only [Act.put, List.setIfInBounds_toArray, List.set_cons_zero, List.set_cons_succ, i64_w, i32_w]
              rfl
            refine pure_ (i := 3) (N := some 51) (v := ?_) (a' := ?_) #[true, true, true, true, false, false, false, false, false, false, false, false, false, false, false] rfl rfl (any_of HT_.out (by kernel_rfl)) (fun _ _ _ h => h) (Or.inl ⟨by rfl, ?_⟩) ?_ ?_
            rotate_left
            · intro w'
              go_simp
              with_reducible rfl
            rotate_left
            · simp only [Act.put, List.setIfInBounds_toArray, List.set_cons_zero, List.set_cons_succ, i64_w, i32_w]
              rfl
            refine pure_ (i := 5) (N := some 53) (v := ?_) (a' := ?_) #[true, true, true, true, false, true, false, false, false, false, false, false, false, false, false] rfl rfl (any_of HT_.out (by kernel_rfl)) (fun _ _ _ h => h) (Or.inl ⟨by rfl, ?_⟩) ?_ ?_
            rotate_left
            · intro w'
              go_simp
              with_reducible rfl
            rotate_left
            · simp only [Act.put, List.setIfInBounds_toArray, List.set_cons_zero, List.set_cons_succ, i64_w, i32_w]
              rfl
            refine pure_ (i := 6) (N := some 54) (v := ?_) (a' := ?_) #[true, true, true, true, false, true, true, false, false, false, false, false, false, false, false] rfl rfl (any_of HT_.out (by kernel_rfl)) (fun _ _ _ h => h) (Or.inl ⟨by rfl, ?_⟩) ?_ ?_
            rotate_left
            · intro w'
              go_simp
              with_reducible rfl
            rotate_left
            · simp only [Act.put, List.setIfInBounds_toArray, List.set_cons_zero, List.set_cons_succ, i64_w, i32_w]
              rfl
            refine take_ (i := 4) (N := some 52) (v := ?_) (a' := ?_) #[true, true, true, true, true, true, true, false, false, false, false, false, false, false, false] rfl rfl (z29q HT_.out HW_.out (by kernel_rfl)) (fun _ _ _ h => h) (Or.inl ⟨by rfl, ?_⟩) hHeld ?_ ?_
            rotate_left
            · rintro w' ⟨s0, s1, s2, s3⟩
              go_simp
              with_reducible rfl
            rotate_left
            · simp only [Act.put, List.setIfInBounds_toArray, List.set_cons_zero, List.set_cons_succ, i64_w, i32_w]
              rfl
            refine one_ (i := 7) (N := some 55) #[true, true, true, true, true, true, true, true, false, false, false, false, false, false, false] rfl rfl (one_of HT_.out (by kernel_rfl)) (by decide) (fun K hK => ?_)
            refine goes_ Try.func15 (by kernel_rfl) rfl #[.slice A1 l1.length c1, .slice A2 l2.length c2] (by rfl) rfl rfl (by (try simp only [List.map_toArray, List.map_cons, List.map_nil]); first | done | rfl | (simp only [List.length_drop, List.length_take]; rfl)) ?_
            with_reducible refine (knap_Worth.calls kj3 _ _ l1 _ _ l2 t417 t418 t421 _ ?side1 ?side2 ?side3 ?side4 A39.out).mono ?_
            (case side1 => repeat (first | exact (Kd.C_below HR1.out HB.out) | (with_reducible refine Kd.C_alloc ?_ _) | (with_reducible refine Kd.C_drewN ?_ _) | (with_reducible refine Kd.C_drew ?_)))
            (case side2 => exact HC1.out)
            (case side3 => repeat (first | exact (Kd.C_below HR2.out HB.out) | (with_reducible refine Kd.C_alloc ?_ _) | (with_reducible refine Kd.C_drewN ?_ _) | (with_reducible refine Kd.C_drew ?_)))
            (case side4 => exact HC2.out)
            rintro e w53 ⟨v419, v422, rfl, ho0, ho1, hb⟩
            refine ⟨_, rfl, ?_⟩
            have n0_ := Aside0.mk (Kd.R_mono (Kd.R_told (Kd.R_told (Kd.R_old (by (with_reducible repeat (first | apply Kd.R_alloc | apply Kd.R_drewN | apply Kd.R_drew)); exact HO408.out) hb) (Kd.R_base ho0)) (Kd.R_base ho1)) (fun _ h_ => h_.1))
            have n1_ := Aside0.mk (Kd.R_mono (Kd.R_told (Kd.R_told (Kd.R_old (by (with_reducible repeat (first | apply Kd.R_alloc | apply Kd.R_drewN | apply Kd.R_drew)); exact HO411.out) hb) (Kd.R_base ho0)) (Kd.R_base ho1)) (fun _ h_ => h_.1))
            have n2_ := Aside0.mk (Kd.R_below (by (with_reducible repeat (first | apply Kd.R_alloc | apply Kd.R_drewN | apply Kd.R_drew)); exact HO414.out) hb)
            have n3_ := Aside0.mk (Kd.R_lower (Kd.R_new' (Kd.R_new' ho0 (Kd.R_lt (by (with_reducible repeat (first | apply Kd.R_alloc | apply Kd.R_drewN | apply Kd.R_drew)); exact HO408.out))) (Kd.R_lt (by (with_reducible repeat (first | apply Kd.R_alloc | apply Kd.R_drewN | apply Kd.R_drew)); exact HO411.out))) (z10q (by repeat (first | (with_reducible first | exact HB.out | apply z02q | apply z00q | apply z01q | refine z03q ?_ GE400.out | refine z03q ?_ GE416.out) | exact HB.out))))
            have n4_ := Aside0.mk (Kd.R_lower (Kd.R_new' (Kd.R_new' ho1 (Kd.R_lt (by (with_reducible repeat (first | apply Kd.R_alloc | apply Kd.R_drewN | apply Kd.R_drew)); exact HO408.out))) (Kd.R_lt (by (with_reducible repeat (first | apply Kd.R_alloc | apply Kd.R_drewN | apply Kd.R_drew)); exact HO411.out))) (z10q (by repeat (first | (with_reducible first | exact HB.out | apply z02q | apply z00q | apply z01q | refine z03q ?_ GE400.out | refine z03q ?_ GE416.out) | exact HB.out))))
            have n5_ := Aside0.mk (z09q (g := gb400) (o := .cells #[.int .i64 a0_0, .slice A0_1 l0_1.length c0_1] 24 (0, 0)) (by (with_reducible repeat (first | refine z06q ?_ _ | refine z07q ?_ | refine z05q ?_ _)); exact BK400.out) hb)
            have n6_ := Aside0.mk (z09q (g := gb416) (o := .cells #[.bool t405, .slice Ao48 t406.length co48, .slice Ao49 t409.length co49, .slice Ao50 t412.length co50] 41 (0, 0)) (by (with_reducible repeat (first | refine z06q ?_ _ | refine z07q ?_ | refine z05q ?_ _)); exact BK416.out) hb)
            have n7_ := Aside0.mk (z11q (by repeat (first | (with_reducible first | exact HB.out | apply z02q | apply z00q | apply z01q | refine z03q ?_ GE400.out | refine z03q ?_ GE416.out) | exact HB.out)) hb)
            clear HO408
            clear HO411
            clear HO414
            clear BK400
            clear BK416
            clear HB
            have HO408 := n0_
            have HO411 := n1_
            have HO414 := n2_
            have HO420 := n3_
            have HO423 := n4_
            have BK400 := n5_
            have BK416 := n6_
            have HB := n7_
            clear n0_ n1_ n2_ n3_ n4_ n5_ n6_ n7_
            (try clear hb)
            (try clear hb2)
            (try clear hk)
            (try clear hi)
            (try clear ho0)
            (try clear ho1)
            obtain ⟨Ao54, co54, eo54⟩ := Kd.R_slice HO420.out
            (first | subst eo54 | (injection eo54 with f1_ f2_ f3_; have f4_ := f1_.symm; have f5_ := f3_.symm; clear f1_ f2_ f3_; subst f4_; subst f5_))
            obtain ⟨Ao55, co55, eo55⟩ := Kd.R_slice HO423.out
            (first | subst eo55 | (injection eo55 with f1_ f2_ f3_; have f4_ := f1_.symm; have f5_ := f3_.symm; clear f1_ f2_ f3_; subst f4_; subst f5_))
            refine hK.out _ _ ⟨(z04q BK416.out 0).trans rfl, (z04q BK416.out 1).trans rfl, (z04q BK416.out 2).trans rfl, (z04q BK416.out 3).trans rfl⟩ (fun hHeld => ?_)
            clear hK K
            refine norm_ (a' := ?_) ?_ ?_
            rotate_left
            · show Act.put _ (some 55) _ = _
              simp only [Act.put, List.setIfInBounds_toArray, List.set_cons_zero, List.set_cons_succ, i64_w, i32_w]
              rfl
            refine one_ (i := 8) (N := some 56) #[true, true, true, true, true, true, true, true, true, false, false, false, false, false, false] rfl rfl (one_of HT_.out (by kernel_rfl)) (by decide) (fun K hK => ?_)
            refine goes_ Try.func12 (by kernel_rfl) rfl #[.agg #[.bool t405, .slice Ao48 t406.length co48, .slice Ao49 t409.length co49], .agg #[.bool t417, .slice Ao54 t418.length co54, .slice Ao55 t421.length co55]] (by rfl) rfl rfl (by (try simp only [List.map_toArray, List.map_cons, List.map_nil]); first | done | rfl | (simp only [List.length_drop, List.length_take]; rfl)) ?_
            with_reducible refine (rat_Compare.calls kj3 t405 _ _ t406 _ _ t409 t417 _ _ t418 _ _ t421 t424 _ ?side1 ?side2 ?side3 ?side4 ?side5 ?side6 ?side7 ?side8 A40.out).mono ?_
            (case side1 => repeat (first | exact (Kd.R_reads' HO408.out).2.2 | (with_reducible refine Kd.C_alloc ?_ _) | (with_reducible refine Kd.C_drewN ?_ _) | (with_reducible refine Kd.C_drew ?_)))
            (case side2 => exact (Kd.R_reads' HO408.out).2.1)
            (case side3 => repeat (first | exact (Kd.R_reads' HO411.out).2.2 | (with_reducible refine Kd.C_alloc ?_ _) | (with_reducible refine Kd.C_drewN ?_ _) | (with_reducible refine Kd.C_drew ?_)))
            (case side4 => exact (Kd.R_reads' HO411.out).2.1)
            (case side5 => repeat (first | exact (Kd.R_reads' HO420.out).2.2 | (with_reducible refine Kd.C_alloc ?_ _) | (with_reducible refine Kd.C_drewN ?_ _) | (with_reducible refine Kd.C_drew ?_)))
            (case side6 => exact (Kd.R_reads' HO420.out).2.1)
            (case side7 => repeat (first | exact (Kd.R_reads' HO423.out).2.2 | (with_reducible refine Kd.C_alloc ?_ _) | (with_reducible refine Kd.C_drewN ?_ _) | (with_reducible refine Kd.C_drew ?_)))
            (case side8 => exact (Kd.R_reads' HO423.out).2.1)
            rintro e w56 ⟨rfl, hb⟩
            refine ⟨_, rfl, ?_⟩
            have n0_ := Aside0.mk (Kd.R_below (by (with_reducible repeat (first | apply Kd.R_alloc | apply Kd.R_drewN | apply Kd.R_drew)); exact HO408.out) hb)
            have n1_ := Aside0.mk (Kd.R_below (by (with_reducible repeat (first | apply Kd.R_alloc | apply Kd.R_drewN | apply Kd.R_drew)); exact HO411.out) hb)
            have n2_ := Aside0.mk (Kd.R_below (by (with_reducible repeat (first | apply Kd.R_alloc | apply Kd.R_drewN | apply Kd.R_drew)); exact HO414.out) hb)
            have n3_ := Aside0.mk (Kd.R_below (by (with_reducible repeat (first | apply Kd.R_alloc | apply Kd.R_drewN | apply Kd.R_drew)); exact HO420.out) hb)
            have n4_ := Aside0.mk (Kd.R_below (by (with_reducible repeat (first | apply Kd.R_alloc | apply Kd.R_drewN | apply Kd.R_drew)); exact HO423.out) hb)
            have n5_ := Aside0.mk (z09q (g := gb400) (o := .cells #[.int .i64 a0_0, .slice A0_1 l0_1.length c0_1] 24 (0, 0)) (by (with_reducible repeat (first | refine z06q ?_ _ | refine z07q ?_ | refine z05q ?_ _)); exact BK400.out) hb)
            have n6_ := Aside0.mk (z09q (g := gb416) (o := .cells #[.bool t405, .slice Ao48 t406.length co48, .slice Ao49 t409.length co49, .slice Ao50 t412.length co50] 41 (0, 0)) (by (with_reducible repeat (first | refine z06q ?_ _ | refine z07q ?_ | refine z05q ?_ _)); exact BK416.out) hb)
            have n7_ := Aside0.mk (z11q (by repeat (first | (with_reducible first | exact HB.out | apply z02q | apply z00q | apply z01q | refine z03q ?_ GE400.out | refine z03q ?_ GE416.out) | exact HB.out)) hb)
            clear HO408
            clear HO411
            clear HO414
            clear HO420
            clear HO423
            clear BK400
            clear BK416
            clear HB
            have HO408 := n0_
            have HO411 := n1_
            have HO414 := n2_
            have HO420 := n3_
            have HO423 := n4_
            have BK400 := n5_
            have BK416 := n6_
            have HB := n7_
            clear n0_ n1_ n2_ n3_ n4_ n5_ n6_ n7_
            (try clear hb)
            (try clear hb2)
            (try clear hk)
            (try clear hi)
            refine hK.out _ _ ⟨(z04q BK416.out 0).trans rfl, (z04q BK416.out 1).trans rfl, (z04q BK416.out 2).trans rfl, (z04q BK416.out 3).trans rfl⟩ (fun hHeld => ?_)
            clear hK K
            refine norm_ (a' := ?_) ?_ ?_
            rotate_left
            · show Act.put _ (some 56) _ = _
              simp only [Act.put, List.setIfInBounds_toArray, List.set_cons_zero, List.set_cons_succ, i64_w, i32_w]
              rfl
            refine pure_ (i := 9) (N := some 57) (v := ?_) (a' := ?_) #[true, true, true, true, true, true, true, true, true, true, false, false, false, false, false] rfl rfl (any_of HT_.out (by kernel_rfl)) (fun _ _ _ h => h) (Or.inl ⟨by rfl, ?_⟩) ?_ ?_
            rotate_left
            · intro w'
              go_simp
              with_reducible rfl
            rotate_left
            · simp only [Act.put, List.setIfInBounds_toArray, List.set_cons_zero, List.set_cons_succ, i64_w, i32_w]
              rfl
            refine pure_ (i := 10) (N := some 58) (v := ?_) (a' := ?_) #[true, true, true, true, true, true, true, true, true, true, true, false, false, false, false] rfl rfl (any_of HT_.out (by kernel_rfl)) (fun _ _ _ h => h) (Or.inl ⟨by rfl, ?_⟩) ?_ ?_
            rotate_left
            · intro w'
              go_simp
              with_reducible rfl
            rotate_left
            · simp only [Act.put, List.setIfInBounds_toArray, List.set_cons_zero, List.set_cons_succ, i64_w, i32_w]
              rfl
            refine pure_ (i := 11) (N := some 59) (v := ?_) (a' := ?_) #[true, true, true, true, true, true, true, true, true, true, true, true, false, false, false] rfl rfl (any_of HT_.out (by kernel_rfl)) (fun _ _ _ h => h) (Or.inl ⟨by rfl, ?_⟩) ?_ ?_
            rotate_left
            · intro w'
              go_simp
              with_reducible rfl
            rotate_left
            · simp only [Act.put, List.setIfInBounds_toArray, List.set_cons_zero, List.set_cons_succ, i64_w, i32_w]
              rfl
            refine one_ (i := 12) (N := some 60) #[true, true, true, true, true, true, true, true, true, true, true, true, true, false, false] rfl rfl (one_of HT_.out (by kernel_rfl)) (by decide) (fun K hK => ?_)
            refine goes_ Try.func10 (by kernel_rfl) rfl #[] (by rfl) rfl rfl (by (try simp only [List.map_toArray, List.map_cons, List.map_nil]); first | done | rfl | (simp only [List.length_drop, List.length_take]; rfl)) ?_
            with_reducible refine (offcutlaw16_awake.calls kj3  t425 _ A42.out).mono ?_
            rintro e w57 ⟨rfl, hb⟩
            refine ⟨_, rfl, ?_⟩
            have n0_ := Aside0.mk (Kd.R_below (by (with_reducible repeat (first | apply Kd.R_alloc | apply Kd.R_drewN | apply Kd.R_drew)); exact HO408.out) hb)
            have n1_ := Aside0.mk (Kd.R_below (by (with_reducible repeat (first | apply Kd.R_alloc | apply Kd.R_drewN | apply Kd.R_drew)); exact HO411.out) hb)
            have n2_ := Aside0.mk (Kd.R_below (by (with_reducible repeat (first | apply Kd.R_alloc | apply Kd.R_drewN | apply Kd.R_drew)); exact HO414.out) hb)
            have n3_ := Aside0.mk (Kd.R_below (by (with_reducible repeat (first | apply Kd.R_alloc | apply Kd.R_drewN | apply Kd.R_drew)); exact HO420.out) hb)
            have n4_ := Aside0.mk (Kd.R_below (by (with_reducible repeat (first | apply Kd.R_alloc | apply Kd.R_drewN | apply Kd.R_drew)); exact HO423.out) hb)
            have n5_ := Aside0.mk (z09q (g := gb400) (o := .cells #[.int .i64 a0_0, .slice A0_1 l0_1.length c0_1] 24 (0, 0)) (by (with_reducible repeat (first | refine z06q ?_ _ | refine z07q ?_ | refine z05q ?_ _)); exact BK400.out) hb)
            have n6_ := Aside0.mk (z09q (g := gb416) (o := .cells #[.bool t405, .slice Ao48 t406.length co48, .slice Ao49 t409.length co49, .slice Ao50 t412.length co50] 41 (0, 0)) (by (with_reducible repeat (first | refine z06q ?_ _ | refine z07q ?_ | refine z05q ?_ _)); exact BK416.out) hb)
            have n7_ := Aside0.mk (z11q (by repeat (first | (with_reducible first | exact HB.out | apply z02q | apply z00q | apply z01q | refine z03q ?_ GE400.out | refine z03q ?_ GE416.out) | exact HB.out)) hb)
            clear HO408
            clear HO411
            clear HO414
            clear HO420
            clear HO423
            clear BK400
            clear BK416
            clear HB
            have HO408 := n0_
            have HO411 := n1_
            have HO414 := n2_
            have HO420 := n3_
            have HO423 := n4_
            have BK400 := n5_
            have BK416 := n6_
            have HB := n7_
            clear n0_ n1_ n2_ n3_ n4_ n5_ n6_ n7_
            (try clear hb)
            (try clear hb2)
            (try clear hk)
            (try clear hi)
            refine hK.out _ _ ⟨(z04q BK416.out 0).trans rfl, (z04q BK416.out 1).trans rfl, (z04q BK416.out 2).trans rfl, (z04q BK416.out 3).trans rfl⟩ (fun hHeld => ?_)
            clear hK K
            refine norm_ (a' := ?_) ?_ ?_
            rotate_left
            · show Act.put _ (some 60) _ = _
              simp only [Act.put, List.setIfInBounds_toArray, List.set_cons_zero, List.set_cons_succ, i64_w, i32_w]
              rfl
            refine pure_ (i := 13) (N := some 61) (v := ?_) (a' := ?_) #[true, true, true, true, true, true, true, true, true, true, true, true, true, true, false] rfl rfl (any_of HT_.out (by kernel_rfl)) (fun _ _ _ h => h) (Or.inl ⟨by rfl, ?_⟩) ?_ ?_
            rotate_left
            · intro w'
              go_simp
              with_reducible rfl
            rotate_left
            · simp only [Act.put, List.setIfInBounds_toArray, List.set_cons_zero, List.set_cons_succ, i64_w, i32_w]
              rfl
            refine pure_ (i := 14) (N := some 6) (v := ?_) (a' := ?_) #[true, true, true, true, true, true, true, true, true, true, true, true, true, true, true] rfl rfl (any_of HT_.out (by kernel_rfl)) (fun _ _ _ h => h) (Or.inl ⟨by rfl, ?_⟩) ?_ ?_
            rotate_left
            · intro w'
              go_simp
              with_reducible rfl
            rotate_left
            · simp only [Act.put, List.setIfInBounds_toArray, List.set_cons_zero, List.set_cons_succ, i64_w, i32_w]
              rfl
            refine done_ (done_of HT_.out (by kernel_rfl)) ?_
            try go_wp2
            go_ret
            exact ⟨by first | rfl | (simp [z14q, z13q] <;> rfl) | (simp [*, z14q, z13q] <;> rfl), by repeat (first | (with_reducible first | exact HB.out | apply z02q | apply z00q | apply z01q | refine z03q ?_ GE400.out | refine z03q ?_ GE416.out) | exact HB.out)⟩
          · rw [if_neg c41] at H
            have c41b0 : decide (0 ≤ t424) = false := decide_eq_false c41
            clear c41
            obtain rfl := Option.some.inj H
            have hcz58_0 : wc.cell? ⟨gb400, 0, none⟩ = some (.int .i64 a0_0) := (z04q BK400.out 0).trans rfl
            have hcz58_1 : wc.cell? ⟨gb400, 1, none⟩ = some (.slice A0_1 l0_1.length c0_1) := (z04q BK400.out 1).trans rfl
            have hfz58_0 := z08q BK400.out 0
            have hfz58_1 := z08q BK400.out 1
            try go_wp2_with (first | ((with_reducible refine z16q (f := 11) rfl ?_); refine goesL_ (some 45) rfl rfl Try.func11 (by kernel_rfl) rfl #[.agg #[.int .i64 a0_0, .slice A0_1 l0_1.length c0_1], .slice A1 l1.length c1] rfl (by (try simp only [List.map_toArray, List.map_cons, List.map_nil]); first | done | rfl | (simp only [List.length_drop, List.length_take]; rfl)) ?_; (with_reducible refine (knap_Best.calls a0_0 _ _ l0_1 _ _ l1 t405 t406 t409 t412 t415 _ ?side1 ?side2 ?side3 ?side4 A37.out).mono ?_); (case side1 => repeat (first | exact (Kd.C_below HR0_1.out HB.out) | (with_reducible refine Kd.C_alloc ?_ _) | (with_reducible refine Kd.C_drewN ?_ _) | (with_reducible refine Kd.C_drew ?_))); (case side2 => exact HC0_1.out); (case side3 => repeat (first | exact (Kd.C_below HR1.out HB.out) | (with_reducible refine Kd.C_alloc ?_ _) | (with_reducible refine Kd.C_drewN ?_ _) | (with_reducible refine Kd.C_drew ?_))); (case side4 => exact HC1.out); rintro e w59 ⟨v407, v410, v413, rfl, ho0, ho1, ho2, hb⟩; refine ⟨_, rfl, ?_⟩; have n0_ := Aside0.mk (Kd.R_lower ho0 (z10q (by repeat (first | (with_reducible first | exact HB.out | apply z02q | apply z00q | apply z01q | refine z03q ?_ GE400.out) | exact HB.out)))); have n1_ := Aside0.mk (Kd.R_lower ho1 (z10q (by repeat (first | (with_reducible first | exact HB.out | apply z02q | apply z00q | apply z01q | refine z03q ?_ GE400.out) | exact HB.out)))); have n2_ := Aside0.mk (Kd.R_lower ho2 (z10q (by repeat (first | (with_reducible first | exact HB.out | apply z02q | apply z00q | apply z01q | refine z03q ?_ GE400.out) | exact HB.out)))); have n3_ := Aside0.mk (z09q (g := gb400) (o := .cells #[.int .i64 a0_0, .slice A0_1 l0_1.length c0_1] 24 (0, 0)) (by (with_reducible repeat (first | refine z06q ?_ _ | refine z07q ?_ | refine z05q ?_ _)); exact BK400.out) hb); have n4_ := Aside0.mk (z11q (by repeat (first | (with_reducible first | exact HB.out | apply z02q | apply z00q | apply z01q | refine z03q ?_ GE400.out) | exact HB.out)) hb); clear BK400; clear HB; have HO408 := n0_; have HO411 := n1_; have HO414 := n2_; have BK400 := n3_; have HB := n4_; clear n0_ n1_ n2_ n3_ n4_; (try clear hb); (try clear hb2); (try clear hk); (try clear hi); (try clear ho0); (try clear ho1); (try clear ho2)) | ((with_reducible refine z18q (N := 7) rfl ?_); (try (refine z25q (by rfl) ?_; dsimp only)); refine z17q ?hg (N := 7) ?hd (cs := #[.bool false, .slice none 0 0, .slice none 0 0, .slice none 0 0]) (t := 41) ?hr ?_; (case hd => rfl); (case hg => rfl); (case hr => first | (go_simp; done) | (go_simp; rfl)); intro gb416 hg w60 hbox hb; have n0_ := Aside0.mk (Kd.R_below (by (with_reducible repeat (first | apply Kd.R_alloc | apply Kd.R_drewN | apply Kd.R_drew)); exact HO408.out) hb); have n1_ := Aside0.mk (Kd.R_below (by (with_reducible repeat (first | apply Kd.R_alloc | apply Kd.R_drewN | apply Kd.R_drew)); exact HO411.out) hb); have n2_ := Aside0.mk (Kd.R_below (by (with_reducible repeat (first | apply Kd.R_alloc | apply Kd.R_drewN | apply Kd.R_drew)); exact HO414.out) hb); have n3_ := Aside0.mk (z09q (g := gb400) (o := .cells #[.int .i64 a0_0, .slice A0_1 l0_1.length c0_1] 24 (0, 0)) (by (with_reducible repeat (first | refine z06q ?_ _ | refine z07q ?_ | refine z05q ?_ _)); exact BK400.out) hb); have n4_ := Aside0.mk (z11q (by repeat (first | (with_reducible first | exact HB.out | apply z02q | apply z00q | apply z01q | refine z03q ?_ GE400.out) | exact HB.out)) hb); have n5_ := Aside0.mk (hbox); have n6_ := Aside0.mk ((by rw [hg]; exact (z10q (by repeat (first | (with_reducible first | exact HB.out | apply z02q | apply z00q | apply z01q | refine z03q ?_ GE400.out) | exact HB.out))) : w.heap.size ≤ gb416)); have n7_ := Aside0.mk ((by rw [hg]; exact (z10q (by repeat (first | (with_reducible first | exact HB.out | apply z02q | apply z00q | apply z01q | refine z03q ?_ GE400.out) | exact HB.out))) : w.heap.size ≤ gb416)); have n8_ := Aside0.mk ((by rw [hg]; exact Nat.ne_of_lt (blk_lt (g := gb400) (o := .cells #[.int .i64 a0_0, .slice A0_1 l0_1.length c0_1] 24 (0, 0)) (by (with_reducible repeat (first | refine z06q ?_ _ | refine z07q ?_ | refine z05q ?_ _)); exact BK400.out)) : gb400 ≠ gb416)); have n9_ := Aside0.mk ((by rw [hg]; exact Nat.ne_of_gt (blk_lt (g := gb400) (o := .cells #[.int .i64 a0_0, .slice A0_1 l0_1.length c0_1] 24 (0, 0)) (by (with_reducible repeat (first | refine z06q ?_ _ | refine z07q ?_ | refine z05q ?_ _)); exact BK400.out)) : gb416 ≠ gb400)); clear HO408; clear HO411; clear HO414; clear BK400; clear HB; have HO408 := n0_; have HO411 := n1_; have HO414 := n2_; have BK400 := n3_; have HB := n4_; have BK416 := n5_; have GW416 := n6_; have GE416 := n7_; have NB400_416 := n8_; have NB416_400 := n9_; clear n0_ n1_ n2_ n3_ n4_ n5_ n6_ n7_ n8_ n9_; clear hb hbox hg; have hnb61 := NB416_400.out; have hnc61 := NB400_416.out; have hcz62_0 : w60.cell? ⟨gb416, 0, none⟩ = some (.bool false) := (z04q BK416.out 0).trans rfl; have hcz62_1 : w60.cell? ⟨gb416, 1, none⟩ = some (.slice none 0 0) := (z04q BK416.out 1).trans rfl; have hcz62_2 : w60.cell? ⟨gb416, 2, none⟩ = some (.slice none 0 0) := (z04q BK416.out 2).trans rfl; have hcz62_3 : w60.cell? ⟨gb416, 3, none⟩ = some (.slice none 0 0) := (z04q BK416.out 3).trans rfl; have hfz62_0 := z08q BK416.out 0; have hfz62_1 := z08q BK416.out 1; have hfz62_2 := z08q BK416.out 2; have hfz62_3 := z08q BK416.out 3; obtain ⟨Ao63, co63, eo63⟩ := Kd.R_slice HO408.out; subst eo63; obtain ⟨Ao64, co64, eo64⟩ := Kd.R_slice HO411.out; subst eo64; obtain ⟨Ao65, co65, eo65⟩ := Kd.R_slice HO414.out; subst eo65))
            have n0_ : Aside0 (Kd.R (Kd.int .u32) 96 ((((w60.setCell ⟨gb416, 0, none⟩ (.bool t405)).setCell ⟨gb416, 1, none⟩ (.slice Ao63 t406.length co63)).setCell ⟨gb416, 2, none⟩ (.slice Ao64 t409.length co64)).setCell ⟨gb416, 3, none⟩ (.slice Ao65 t412.length co65)) w.heap.size (fun k_ => some k_ ≠ (.slice Ao64 t409.length co64 : Value).ownBlock) (.slice Ao63 t406.length co63) t406) := ⟨by (with_reducible repeat (first | apply Kd.R_alloc | apply Kd.R_drewN | apply Kd.R_drew)); exact Kd.R_mono (Kd.R_far (p := ⟨gb416, 3, none⟩) (Kd.R_far (p := ⟨gb416, 2, none⟩) (Kd.R_far (p := ⟨gb416, 1, none⟩) (Kd.R_far (p := ⟨gb416, 0, none⟩) (Kd.R_types HO408.out BK416.out (by decide)) (fun _ hk => hk.2) (.bool t405)) (fun _ hk => hk.2) (.slice Ao63 t406.length co63)) (fun _ hk => hk.2) (.slice Ao64 t409.length co64)) (fun _ hk => hk.2) (.slice Ao65 t412.length co65)) (fun _ hk => by first | exact hk.1 | exact hk.1.1 | exact hk.1.2)⟩
            have n1_ : Aside0 (Kd.R (Kd.int .u32) 96 ((((w60.setCell ⟨gb416, 0, none⟩ (.bool t405)).setCell ⟨gb416, 1, none⟩ (.slice Ao63 t406.length co63)).setCell ⟨gb416, 2, none⟩ (.slice Ao64 t409.length co64)).setCell ⟨gb416, 3, none⟩ (.slice Ao65 t412.length co65)) w.heap.size (fun k_ => some k_ ≠ (.slice Ao63 t406.length co63 : Value).ownBlock) (.slice Ao64 t409.length co64) t409) := ⟨by (with_reducible repeat (first | apply Kd.R_alloc | apply Kd.R_drewN | apply Kd.R_drew)); exact Kd.R_mono (Kd.R_far (p := ⟨gb416, 3, none⟩) (Kd.R_far (p := ⟨gb416, 2, none⟩) (Kd.R_far (p := ⟨gb416, 1, none⟩) (Kd.R_far (p := ⟨gb416, 0, none⟩) (Kd.R_types HO411.out BK416.out (by decide)) (fun _ hk => hk.2) (.bool t405)) (fun _ hk => hk.2) (.slice Ao63 t406.length co63)) (fun _ hk => hk.2) (.slice Ao64 t409.length co64)) (fun _ hk => hk.2) (.slice Ao65 t412.length co65)) (fun _ hk => by first | exact hk.1 | exact hk.1.1 | exact hk.1.2)⟩
            have n2_ : Aside0 (Kd.R (Kd.int .i64) 3 ((((w60.setCell ⟨gb416, 0, none⟩ (.bool t405)).setCell ⟨gb416, 1, none⟩ (.slice Ao63 t406.length co63)).setCell ⟨gb416, 2, none⟩ (.slice Ao64 t409.length co64)).setCell ⟨gb416, 3, none⟩ (.slice Ao65 t412.length co65)) w.heap.size (fun _ => True) (.slice Ao65 t412.length co65) t412) := ⟨by (with_reducible repeat (first | apply Kd.R_alloc | apply Kd.R_drewN | apply Kd.R_drew)); exact Kd.R_mono (Kd.R_far (p := ⟨gb416, 3, none⟩) (Kd.R_far (p := ⟨gb416, 2, none⟩) (Kd.R_far (p := ⟨gb416, 1, none⟩) (Kd.R_far (p := ⟨gb416, 0, none⟩) (Kd.R_types HO414.out BK416.out (by decide)) (fun _ hk => hk.2) (.bool t405)) (fun _ hk => hk.2) (.slice Ao63 t406.length co63)) (fun _ hk => hk.2) (.slice Ao64 t409.length co64)) (fun _ hk => hk.2) (.slice Ao65 t412.length co65)) (fun _ hk => trivial)⟩
            have n3_ : Aside0 (((((w60.setCell ⟨gb416, 0, none⟩ (.bool t405)).setCell ⟨gb416, 1, none⟩ (.slice Ao63 t406.length co63)).setCell ⟨gb416, 2, none⟩ (.slice Ao64 t409.length co64)).setCell ⟨gb416, 3, none⟩ (.slice Ao65 t412.length co65)).heap[gb400]? = some (.cells #[.int .i64 a0_0, .slice A0_1 l0_1.length c0_1] 24 (0, 0))) := ⟨by (with_reducible repeat (first | refine z06q ?_ _ | refine z07q ?_ | refine z05q ?_ _)); refine blk_far ?_ NB400_416.out _; (with_reducible repeat (first | refine z06q ?_ _ | refine z07q ?_ | refine z05q ?_ _)); refine blk_far ?_ NB400_416.out _; (with_reducible repeat (first | refine z06q ?_ _ | refine z07q ?_ | refine z05q ?_ _)); refine blk_far ?_ NB400_416.out _; (with_reducible repeat (first | refine z06q ?_ _ | refine z07q ?_ | refine z05q ?_ _)); refine blk_far ?_ NB400_416.out _; (with_reducible repeat (first | refine z06q ?_ _ | refine z07q ?_ | refine z05q ?_ _)); exact BK400.out⟩
            have n4_ : Aside0 (((((w60.setCell ⟨gb416, 0, none⟩ (.bool t405)).setCell ⟨gb416, 1, none⟩ (.slice Ao63 t406.length co63)).setCell ⟨gb416, 2, none⟩ (.slice Ao64 t409.length co64)).setCell ⟨gb416, 3, none⟩ (.slice Ao65 t412.length co65)).heap[gb416]? = some (.cells #[.bool t405, .slice Ao63 t406.length co63, .slice Ao64 t409.length co64, .slice Ao65 t412.length co65] 41 (0, 0))) := ⟨by (with_reducible repeat (first | refine z06q ?_ _ | refine z07q ?_ | refine z05q ?_ _)); refine blk_put (cs := #[.bool t405, .slice Ao63 t406.length co63, .slice Ao64 t409.length co64, .slice none 0 0]) ?_ 3 _ rfl; (with_reducible repeat (first | refine z06q ?_ _ | refine z07q ?_ | refine z05q ?_ _)); refine blk_put (cs := #[.bool t405, .slice Ao63 t406.length co63, .slice none 0 0, .slice none 0 0]) ?_ 2 _ rfl; (with_reducible repeat (first | refine z06q ?_ _ | refine z07q ?_ | refine z05q ?_ _)); refine blk_put (cs := #[.bool t405, .slice none 0 0, .slice none 0 0, .slice none 0 0]) ?_ 1 _ rfl; (with_reducible repeat (first | refine z06q ?_ _ | refine z07q ?_ | refine z05q ?_ _)); refine blk_put (cs := #[.bool false, .slice none 0 0, .slice none 0 0, .slice none 0 0]) ?_ 0 _ rfl; (with_reducible repeat (first | refine z06q ?_ _ | refine z07q ?_ | refine z05q ?_ _)); exact BK416.out⟩
            have n5_ : Aside0 (Below w.heap.size w ((((w60.setCell ⟨gb416, 0, none⟩ (.bool t405)).setCell ⟨gb416, 1, none⟩ (.slice Ao63 t406.length co63)).setCell ⟨gb416, 2, none⟩ (.slice Ao64 t409.length co64)).setCell ⟨gb416, 3, none⟩ (.slice Ao65 t412.length co65))) := ⟨by repeat (first | (with_reducible first | exact HB.out | apply z02q | apply z00q | apply z01q | refine z03q ?_ GE400.out | refine z03q ?_ GE416.out) | exact HB.out)⟩
            (try clear HO408)
            (try clear HO411)
            (try clear HO414)
            (try clear BK400)
            (try clear BK416)
            (try clear HB)
            generalize ((((w60.setCell ⟨gb416, 0, none⟩ (.bool t405)).setCell ⟨gb416, 1, none⟩ (.slice Ao63 t406.length co63)).setCell ⟨gb416, 2, none⟩ (.slice Ao64 t409.length co64)).setCell ⟨gb416, 3, none⟩ (.slice Ao65 t412.length co65)) = w66 at n0_ n1_ n2_ n3_ n4_ n5_ ⊢
            have HO408 := n0_
            have HO411 := n1_
            have HO414 := n2_
            have BK400 := n3_
            have BK416 := n4_
            have HB := n5_
            clear n0_ n1_ n2_ n3_ n4_ n5_
            have n0_ := Aside0.mk (Kd.R_drew HO408.out)
            have n1_ := Aside0.mk (Kd.R_drew HO411.out)
            have n2_ := Aside0.mk (Kd.R_drew HO414.out)
            have n3_ := Aside0.mk (z07q BK400.out)
            have n4_ := Aside0.mk (z07q BK416.out)
            have n5_ := Aside0.mk (z01q HB.out)
            clear HO408
            clear HO411
            clear HO414
            clear BK400
            clear BK416
            clear HB
            have HO408 := n0_
            have HO411 := n1_
            have HO414 := n2_
            have BK400 := n3_
            have BK416 := n4_
            have HB := n5_
            clear n0_ n1_ n2_ n3_ n4_ n5_
            refine start_ (n := 15) (S := fun w' => w'.cell? ⟨gb416, 0, none⟩ = some (.bool t405) ∧ w'.cell? ⟨gb416, 1, none⟩ = some (.slice Ao63 t406.length co63) ∧ w'.cell? ⟨gb416, 2, none⟩ = some (.slice Ao64 t409.length co64) ∧ w'.cell? ⟨gb416, 3, none⟩ = some (.slice Ao65 t412.length co65)) (ds := []) #[false, false, false, false, false, false, false, false, false, false, false, false, false, false, false] (by kernel_rfl) rfl rfl ⟨(z04q BK416.out 0).trans rfl, (z04q BK416.out 1).trans rfl, (z04q BK416.out 2).trans rfl, (z04q BK416.out 3).trans rfl⟩ (fun hHeld => ?_); refine with_tabW offcutlaw16_KnapNone.tab4 offcutlaw16_KnapNone.bits4 (fun HT_ HW_ => ?_)
            generalize w66.drew = w67 at HO408 HO411 HO414 BK400 BK416 HB hHeld ⊢
            refine pure_ (i := 0) (N := some 48) (v := ?_) (a' := ?_) #[true, false, false, false, false, false, false, false, false, false, false, false, false, false, false] rfl rfl (any_of HT_.out (by kernel_rfl)) (fun _ _ _ h => h) (Or.inl ⟨by rfl, ?_⟩) ?_ ?_
            rotate_left
            · intro w'
              go_simp
              with_reducible rfl
            rotate_left
            · simp only [Act.put, List.setIfInBounds_toArray, List.set_cons_zero, List.set_cons_succ, i64_w, i32_w]
              rfl
            refine pure_ (i := 1) (N := some 49) (v := ?_) (a' := ?_) #[true, true, false, false, false, false, false, false, false, false, false, false, false, false, false] rfl rfl (any_of HT_.out (by kernel_rfl)) (fun _ _ _ h => h) (Or.inl ⟨by rfl, ?_⟩) ?_ ?_
            rotate_left
            · intro w'
              go_simp
              with_reducible rfl
            rotate_left
            · simp only [Act.put, List.setIfInBounds_toArray, List.set_cons_zero, List.set_cons_succ, i64_w, i32_w]
              rfl
            refine pure_ (i := 2) (N := some 50) (v := ?_) (a' := ?_) #[true, true, true, false, false, false, false, false, false, false, false, false, false, false, false] rfl rfl (any_of HT_.out (by kernel_rfl)) (fun _ _ _ h => h) (Or.inl ⟨by rfl, ?_⟩) ?_ ?_
            rotate_left
            · intro w'
              go_simp
              with_reducible rfl
            rotate_left
            · simp only [Act.put, List.setIfInBounds_toArray, List.set_cons_zero, List.set_cons_succ, i64_w, i32_w]
              rfl
            refine pure_ (i := 3) (N := some 51) (v := ?_) (a' := ?_) #[true, true, true, true, false, false, false, false, false, false, false, false, false, false, false] rfl rfl (any_of HT_.out (by kernel_rfl)) (fun _ _ _ h => h) (Or.inl ⟨by rfl, ?_⟩) ?_ ?_
            rotate_left
            · intro w'
              go_simp
              with_reducible rfl
            rotate_left
            · simp only [Act.put, List.setIfInBounds_toArray, List.set_cons_zero, List.set_cons_succ, i64_w, i32_w]
              rfl
            refine pure_ (i := 5) (N := some 53) (v := ?_) (a' := ?_) #[true, true, true, true, false, true, false, false, false, false, false, false, false, false, false] rfl rfl (any_of HT_.out (by kernel_rfl)) (fun _ _ _ h => h) (Or.inl ⟨by rfl, ?_⟩) ?_ ?_
            rotate_left
            · intro w'
              go_simp
              with_reducible rfl
            rotate_left
            · simp only [Act.put, List.setIfInBounds_toArray, List.set_cons_zero, List.set_cons_succ, i64_w, i32_w]
              rfl
            refine pure_ (i := 6) (N := some 54) (v := ?_) (a' := ?_) #[true, true, true, true, false, true, true, false, false, false, false, false, false, false, false] rfl rfl (any_of HT_.out (by kernel_rfl)) (fun _ _ _ h => h) (Or.inl ⟨by rfl, ?_⟩) ?_ ?_
            rotate_left
            · intro w'
              go_simp
              with_reducible rfl
            rotate_left
            · simp only [Act.put, List.setIfInBounds_toArray, List.set_cons_zero, List.set_cons_succ, i64_w, i32_w]
              rfl
            refine take_ (i := 4) (N := some 52) (v := ?_) (a' := ?_) #[true, true, true, true, true, true, true, false, false, false, false, false, false, false, false] rfl rfl (z29q HT_.out HW_.out (by kernel_rfl)) (fun _ _ _ h => h) (Or.inl ⟨by rfl, ?_⟩) hHeld ?_ ?_
            rotate_left
            · rintro w' ⟨s0, s1, s2, s3⟩
              go_simp
              with_reducible rfl
            rotate_left
            · simp only [Act.put, List.setIfInBounds_toArray, List.set_cons_zero, List.set_cons_succ, i64_w, i32_w]
              rfl
            refine one_ (i := 7) (N := some 55) #[true, true, true, true, true, true, true, true, false, false, false, false, false, false, false] rfl rfl (one_of HT_.out (by kernel_rfl)) (by decide) (fun K hK => ?_)
            refine goes_ Try.func15 (by kernel_rfl) rfl #[.slice A1 l1.length c1, .slice A2 l2.length c2] (by rfl) rfl rfl (by (try simp only [List.map_toArray, List.map_cons, List.map_nil]); first | done | rfl | (simp only [List.length_drop, List.length_take]; rfl)) ?_
            with_reducible refine (knap_Worth.calls kj3 _ _ l1 _ _ l2 t417 t418 t421 _ ?side1 ?side2 ?side3 ?side4 A39.out).mono ?_
            (case side1 => repeat (first | exact (Kd.C_below HR1.out HB.out) | (with_reducible refine Kd.C_alloc ?_ _) | (with_reducible refine Kd.C_drewN ?_ _) | (with_reducible refine Kd.C_drew ?_)))
            (case side2 => exact HC1.out)
            (case side3 => repeat (first | exact (Kd.C_below HR2.out HB.out) | (with_reducible refine Kd.C_alloc ?_ _) | (with_reducible refine Kd.C_drewN ?_ _) | (with_reducible refine Kd.C_drew ?_)))
            (case side4 => exact HC2.out)
            rintro e w68 ⟨v419, v422, rfl, ho0, ho1, hb⟩
            refine ⟨_, rfl, ?_⟩
            have n0_ := Aside0.mk (Kd.R_mono (Kd.R_told (Kd.R_told (Kd.R_old (by (with_reducible repeat (first | apply Kd.R_alloc | apply Kd.R_drewN | apply Kd.R_drew)); exact HO408.out) hb) (Kd.R_base ho0)) (Kd.R_base ho1)) (fun _ h_ => h_.1))
            have n1_ := Aside0.mk (Kd.R_mono (Kd.R_told (Kd.R_told (Kd.R_old (by (with_reducible repeat (first | apply Kd.R_alloc | apply Kd.R_drewN | apply Kd.R_drew)); exact HO411.out) hb) (Kd.R_base ho0)) (Kd.R_base ho1)) (fun _ h_ => h_.1))
            have n2_ := Aside0.mk (Kd.R_below (by (with_reducible repeat (first | apply Kd.R_alloc | apply Kd.R_drewN | apply Kd.R_drew)); exact HO414.out) hb)
            have n3_ := Aside0.mk (Kd.R_lower (Kd.R_new' (Kd.R_new' ho0 (Kd.R_lt (by (with_reducible repeat (first | apply Kd.R_alloc | apply Kd.R_drewN | apply Kd.R_drew)); exact HO408.out))) (Kd.R_lt (by (with_reducible repeat (first | apply Kd.R_alloc | apply Kd.R_drewN | apply Kd.R_drew)); exact HO411.out))) (z10q (by repeat (first | (with_reducible first | exact HB.out | apply z02q | apply z00q | apply z01q | refine z03q ?_ GE400.out | refine z03q ?_ GE416.out) | exact HB.out))))
            have n4_ := Aside0.mk (Kd.R_lower (Kd.R_new' (Kd.R_new' ho1 (Kd.R_lt (by (with_reducible repeat (first | apply Kd.R_alloc | apply Kd.R_drewN | apply Kd.R_drew)); exact HO408.out))) (Kd.R_lt (by (with_reducible repeat (first | apply Kd.R_alloc | apply Kd.R_drewN | apply Kd.R_drew)); exact HO411.out))) (z10q (by repeat (first | (with_reducible first | exact HB.out | apply z02q | apply z00q | apply z01q | refine z03q ?_ GE400.out | refine z03q ?_ GE416.out) | exact HB.out))))
            have n5_ := Aside0.mk (z09q (g := gb400) (o := .cells #[.int .i64 a0_0, .slice A0_1 l0_1.length c0_1] 24 (0, 0)) (by (with_reducible repeat (first | refine z06q ?_ _ | refine z07q ?_ | refine z05q ?_ _)); exact BK400.out) hb)
            have n6_ := Aside0.mk (z09q (g := gb416) (o := .cells #[.bool t405, .slice Ao63 t406.length co63, .slice Ao64 t409.length co64, .slice Ao65 t412.length co65] 41 (0, 0)) (by (with_reducible repeat (first | refine z06q ?_ _ | refine z07q ?_ | refine z05q ?_ _)); exact BK416.out) hb)
            have n7_ := Aside0.mk (z11q (by repeat (first | (with_reducible first | exact HB.out | apply z02q | apply z00q | apply z01q | refine z03q ?_ GE400.out | refine z03q ?_ GE416.out) | exact HB.out)) hb)
            clear HO408
            clear HO411
            clear HO414
            clear BK400
            clear BK416
            clear HB
            have HO408 := n0_
            have HO411 := n1_
            have HO414 := n2_
            have HO420 := n3_
            have HO423 := n4_
            have BK400 := n5_
            have BK416 := n6_
            have HB := n7_
            clear n0_ n1_ n2_ n3_ n4_ n5_ n6_ n7_
            (try clear hb)
            (try clear hb2)
            (try clear hk)
            (try clear hi)
            (try clear ho0)
            (try clear ho1)
            obtain ⟨Ao69, co69, eo69⟩ := Kd.R_slice HO420.out
            (first | subst eo69 | (injection eo69 with f1_ f2_ f3_; have f4_ := f1_.symm; have f5_ := f3_.symm; clear f1_ f2_ f3_; subst f4_; subst f5_))
            obtain ⟨Ao70, co70, eo70⟩ := Kd.R_slice HO423.out
            (first | subst eo70 | (injection eo70 with f1_ f2_ f3_; have f4_ := f1_.symm; have f5_ := f3_.symm; clear f1_ f2_ f3_; subst f4_; subst f5_))
            refine hK.out _ _ ⟨(z04q BK416.out 0).trans rfl, (z04q BK416.out 1).trans rfl, (z04q BK416.out 2).trans rfl, (z04q BK416.out 3).trans rfl⟩ (fun hHeld => ?_)
            clear hK K
            refine norm_ (a' := ?_) ?_ ?_
            rotate_left
            · show Act.put _ (some 55) _ = _
              simp only [Act.put, List.setIfInBounds_toArray, List.set_cons_zero, List.set_cons_succ, i64_w, i32_w]
              rfl
            refine one_ (i := 8) (N := some 56) #[true, true, true, true, true, true, true, true, true, false, false, false, false, false, false] rfl rfl (one_of HT_.out (by kernel_rfl)) (by decide) (fun K hK => ?_)
            refine goes_ Try.func12 (by kernel_rfl) rfl #[.agg #[.bool t405, .slice Ao63 t406.length co63, .slice Ao64 t409.length co64], .agg #[.bool t417, .slice Ao69 t418.length co69, .slice Ao70 t421.length co70]] (by rfl) rfl rfl (by (try simp only [List.map_toArray, List.map_cons, List.map_nil]); first | done | rfl | (simp only [List.length_drop, List.length_take]; rfl)) ?_
            with_reducible refine (rat_Compare.calls kj3 t405 _ _ t406 _ _ t409 t417 _ _ t418 _ _ t421 t424 _ ?side1 ?side2 ?side3 ?side4 ?side5 ?side6 ?side7 ?side8 A40.out).mono ?_
            (case side1 => repeat (first | exact (Kd.R_reads' HO408.out).2.2 | (with_reducible refine Kd.C_alloc ?_ _) | (with_reducible refine Kd.C_drewN ?_ _) | (with_reducible refine Kd.C_drew ?_)))
            (case side2 => exact (Kd.R_reads' HO408.out).2.1)
            (case side3 => repeat (first | exact (Kd.R_reads' HO411.out).2.2 | (with_reducible refine Kd.C_alloc ?_ _) | (with_reducible refine Kd.C_drewN ?_ _) | (with_reducible refine Kd.C_drew ?_)))
            (case side4 => exact (Kd.R_reads' HO411.out).2.1)
            (case side5 => repeat (first | exact (Kd.R_reads' HO420.out).2.2 | (with_reducible refine Kd.C_alloc ?_ _) | (with_reducible refine Kd.C_drewN ?_ _) | (with_reducible refine Kd.C_drew ?_)))
            (case side6 => exact (Kd.R_reads' HO420.out).2.1)
            (case side7 => repeat (first | exact (Kd.R_reads' HO423.out).2.2 | (with_reducible refine Kd.C_alloc ?_ _) | (with_reducible refine Kd.C_drewN ?_ _) | (with_reducible refine Kd.C_drew ?_)))
            (case side8 => exact (Kd.R_reads' HO423.out).2.1)
            rintro e w71 ⟨rfl, hb⟩
            refine ⟨_, rfl, ?_⟩
            have n0_ := Aside0.mk (Kd.R_below (by (with_reducible repeat (first | apply Kd.R_alloc | apply Kd.R_drewN | apply Kd.R_drew)); exact HO408.out) hb)
            have n1_ := Aside0.mk (Kd.R_below (by (with_reducible repeat (first | apply Kd.R_alloc | apply Kd.R_drewN | apply Kd.R_drew)); exact HO411.out) hb)
            have n2_ := Aside0.mk (Kd.R_below (by (with_reducible repeat (first | apply Kd.R_alloc | apply Kd.R_drewN | apply Kd.R_drew)); exact HO414.out) hb)
            have n3_ := Aside0.mk (Kd.R_below (by (with_reducible repeat (first | apply Kd.R_alloc | apply Kd.R_drewN | apply Kd.R_drew)); exact HO420.out) hb)
            have n4_ := Aside0.mk (Kd.R_below (by (with_reducible repeat (first | apply Kd.R_alloc | apply Kd.R_drewN | apply Kd.R_drew)); exact HO423.out) hb)
            have n5_ := Aside0.mk (z09q (g := gb400) (o := .cells #[.int .i64 a0_0, .slice A0_1 l0_1.length c0_1] 24 (0, 0)) (by (with_reducible repeat (first | refine z06q ?_ _ | refine z07q ?_ | refine z05q ?_ _)); exact BK400.out) hb)
            have n6_ := Aside0.mk (z09q (g := gb416) (o := .cells #[.bool t405, .slice Ao63 t406.length co63, .slice Ao64 t409.length co64, .slice Ao65 t412.length co65] 41 (0, 0)) (by (with_reducible repeat (first | refine z06q ?_ _ | refine z07q ?_ | refine z05q ?_ _)); exact BK416.out) hb)
            have n7_ := Aside0.mk (z11q (by repeat (first | (with_reducible first | exact HB.out | apply z02q | apply z00q | apply z01q | refine z03q ?_ GE400.out | refine z03q ?_ GE416.out) | exact HB.out)) hb)
            clear HO408
            clear HO411
            clear HO414
            clear HO420
            clear HO423
            clear BK400
            clear BK416
            clear HB
            have HO408 := n0_
            have HO411 := n1_
            have HO414 := n2_
            have HO420 := n3_
            have HO423 := n4_
            have BK400 := n5_
            have BK416 := n6_
            have HB := n7_
            clear n0_ n1_ n2_ n3_ n4_ n5_ n6_ n7_
            (try clear hb)
            (try clear hb2)
            (try clear hk)
            (try clear hi)
            refine hK.out _ _ ⟨(z04q BK416.out 0).trans rfl, (z04q BK416.out 1).trans rfl, (z04q BK416.out 2).trans rfl, (z04q BK416.out 3).trans rfl⟩ (fun hHeld => ?_)
            clear hK K
            refine norm_ (a' := ?_) ?_ ?_
            rotate_left
            · show Act.put _ (some 56) _ = _
              simp only [Act.put, List.setIfInBounds_toArray, List.set_cons_zero, List.set_cons_succ, i64_w, i32_w]
              rfl
            refine pure_ (i := 9) (N := some 57) (v := ?_) (a' := ?_) #[true, true, true, true, true, true, true, true, true, true, false, false, false, false, false] rfl rfl (any_of HT_.out (by kernel_rfl)) (fun _ _ _ h => h) (Or.inl ⟨by rfl, ?_⟩) ?_ ?_
            rotate_left
            · intro w'
              go_simp
              with_reducible rfl
            rotate_left
            · simp only [Act.put, List.setIfInBounds_toArray, List.set_cons_zero, List.set_cons_succ, i64_w, i32_w]
              rfl
            refine pure_ (i := 10) (N := some 58) (v := ?_) (a' := ?_) #[true, true, true, true, true, true, true, true, true, true, true, false, false, false, false] rfl rfl (any_of HT_.out (by kernel_rfl)) (fun _ _ _ h => h) (Or.inl ⟨by rfl, ?_⟩) ?_ ?_
            rotate_left
            · intro w'
              go_simp
              with_reducible rfl
            rotate_left
            · simp only [Act.put, List.setIfInBounds_toArray, List.set_cons_zero, List.set_cons_succ, i64_w, i32_w]
              rfl
            refine pure_ (i := 11) (N := some 59) (v := ?_) (a' := ?_) #[true, true, true, true, true, true, true, true, true, true, true, true, false, false, false] rfl rfl (any_of HT_.out (by kernel_rfl)) (fun _ _ _ h => h) (Or.inl ⟨by rfl, ?_⟩) ?_ ?_
            rotate_left
            · intro w'
              go_simp
              with_reducible rfl
            rotate_left
            · simp only [Act.put, List.setIfInBounds_toArray, List.set_cons_zero, List.set_cons_succ, i64_w, i32_w]
              rfl
            refine pure_ (i := 12) (N := some 60) (v := undef) (a' := ?_) #[true, true, true, true, true, true, true, true, true, true, true, true, true, false, false] rfl rfl (any_of HT_.out (by kernel_rfl)) (fun _ _ _ h => h) (Or.inr ⟨by rfl, rfl⟩) ?_ ?_
            rotate_left
            · simp only [Act.put, List.setIfInBounds_toArray, List.set_cons_zero, List.set_cons_succ, i64_w, i32_w]
              rfl
            refine pure_ (i := 13) (N := some 61) (v := ?_) (a' := ?_) #[true, true, true, true, true, true, true, true, true, true, true, true, true, true, false] rfl rfl (any_of HT_.out (by kernel_rfl)) (fun _ _ _ h => h) (Or.inl ⟨by rfl, ?_⟩) ?_ ?_
            rotate_left
            · intro w'
              go_simp
              with_reducible rfl
            rotate_left
            · simp only [Act.put, List.setIfInBounds_toArray, List.set_cons_zero, List.set_cons_succ, i64_w, i32_w]
              rfl
            refine pure_ (i := 14) (N := some 6) (v := ?_) (a' := ?_) #[true, true, true, true, true, true, true, true, true, true, true, true, true, true, true] rfl rfl (any_of HT_.out (by kernel_rfl)) (fun _ _ _ h => h) (Or.inl ⟨by rfl, ?_⟩) ?_ ?_
            rotate_left
            · intro w'
              go_simp
              with_reducible rfl
            rotate_left
            · simp only [Act.put, List.setIfInBounds_toArray, List.set_cons_zero, List.set_cons_succ, i64_w, i32_w]
              rfl
            refine done_ (done_of HT_.out (by kernel_rfl)) ?_
            try go_wp2
            go_ret
            exact ⟨by first | rfl | (simp [z14q, z13q] <;> rfl) | (simp [*, z14q, z13q] <;> rfl), by repeat (first | (with_reducible first | exact HB.out | apply z02q | apply z00q | apply z01q | refine z03q ?_ GE400.out | refine z03q ?_ GE416.out) | exact HB.out)⟩
        · rw [if_neg c38] at H
          have c38b0 : (t415 == 0) = false := beq_eq_false_iff_ne.mpr c38
          have c38b1 : (t415 != 0) = true := bne_iff_ne.mpr c38
          obtain rfl := Option.some.inj H
          have hcz72_0 : wc.cell? ⟨gb400, 0, none⟩ = some (.int .i64 a0_0) := (z04q BK400.out 0).trans rfl
          have hcz72_1 : wc.cell? ⟨gb400, 1, none⟩ = some (.slice A0_1 l0_1.length c0_1) := (z04q BK400.out 1).trans rfl
          have hfz72_0 := z08q BK400.out 0
          have hfz72_1 := z08q BK400.out 1
          try go_wp2_with (first | ((with_reducible refine z16q (f := 11) rfl ?_); refine goesL_ (some 45) rfl rfl Try.func11 (by kernel_rfl) rfl #[.agg #[.int .i64 a0_0, .slice A0_1 l0_1.length c0_1], .slice A1 l1.length c1] rfl (by (try simp only [List.map_toArray, List.map_cons, List.map_nil]); first | done | rfl | (simp only [List.length_drop, List.length_take]; rfl)) ?_; (with_reducible refine (knap_Best.calls a0_0 _ _ l0_1 _ _ l1 t405 t406 t409 t412 t415 _ ?side1 ?side2 ?side3 ?side4 A37.out).mono ?_); (case side1 => repeat (first | exact (Kd.C_below HR0_1.out HB.out) | (with_reducible refine Kd.C_alloc ?_ _) | (with_reducible refine Kd.C_drewN ?_ _) | (with_reducible refine Kd.C_drew ?_))); (case side2 => exact HC0_1.out); (case side3 => repeat (first | exact (Kd.C_below HR1.out HB.out) | (with_reducible refine Kd.C_alloc ?_ _) | (with_reducible refine Kd.C_drewN ?_ _) | (with_reducible refine Kd.C_drew ?_))); (case side4 => exact HC1.out); rintro e w73 ⟨v407, v410, v413, rfl, ho0, ho1, ho2, hb⟩; refine ⟨_, rfl, ?_⟩; have n0_ := Aside0.mk (Kd.R_lower ho0 (z10q (by repeat (first | (with_reducible first | exact HB.out | apply z02q | apply z00q | apply z01q | refine z03q ?_ GE400.out) | exact HB.out)))); have n1_ := Aside0.mk (Kd.R_lower ho1 (z10q (by repeat (first | (with_reducible first | exact HB.out | apply z02q | apply z00q | apply z01q | refine z03q ?_ GE400.out) | exact HB.out)))); have n2_ := Aside0.mk (Kd.R_lower ho2 (z10q (by repeat (first | (with_reducible first | exact HB.out | apply z02q | apply z00q | apply z01q | refine z03q ?_ GE400.out) | exact HB.out)))); have n3_ := Aside0.mk (z09q (g := gb400) (o := .cells #[.int .i64 a0_0, .slice A0_1 l0_1.length c0_1] 24 (0, 0)) (by (with_reducible repeat (first | refine z06q ?_ _ | refine z07q ?_ | refine z05q ?_ _)); exact BK400.out) hb); have n4_ := Aside0.mk (z11q (by repeat (first | (with_reducible first | exact HB.out | apply z02q | apply z00q | apply z01q | refine z03q ?_ GE400.out) | exact HB.out)) hb); clear BK400; clear HB; have HO408 := n0_; have HO411 := n1_; have HO414 := n2_; have BK400 := n3_; have HB := n4_; clear n0_ n1_ n2_ n3_ n4_; (try clear hb); (try clear hb2); (try clear hk); (try clear hi); (try clear ho0); (try clear ho1); (try clear ho2)) | ((with_reducible refine z18q (N := 7) rfl ?_); (try (refine z25q (by rfl) ?_; dsimp only)); refine z17q ?hg (N := 7) ?hd (cs := #[.bool false, .slice none 0 0, .slice none 0 0, .slice none 0 0]) (t := 41) ?hr ?_; (case hd => rfl); (case hg => rfl); (case hr => first | (go_simp; done) | (go_simp; rfl)); intro gb416 hg w74 hbox hb; have n0_ := Aside0.mk (Kd.R_below (by (with_reducible repeat (first | apply Kd.R_alloc | apply Kd.R_drewN | apply Kd.R_drew)); exact HO408.out) hb); have n1_ := Aside0.mk (Kd.R_below (by (with_reducible repeat (first | apply Kd.R_alloc | apply Kd.R_drewN | apply Kd.R_drew)); exact HO411.out) hb); have n2_ := Aside0.mk (Kd.R_below (by (with_reducible repeat (first | apply Kd.R_alloc | apply Kd.R_drewN | apply Kd.R_drew)); exact HO414.out) hb); have n3_ := Aside0.mk (z09q (g := gb400) (o := .cells #[.int .i64 a0_0, .slice A0_1 l0_1.length c0_1] 24 (0, 0)) (by (with_reducible repeat (first | refine z06q ?_ _ | refine z07q ?_ | refine z05q ?_ _)); exact BK400.out) hb); have n4_ := Aside0.mk (z11q (by repeat (first | (with_reducible first | exact HB.out | apply z02q | apply z00q | apply z01q | refine z03q ?_ GE400.out) | exact HB.out)) hb); have n5_ := Aside0.mk (hbox); have n6_ := Aside0.mk ((by rw [hg]; exact (z10q (by repeat (first | (with_reducible first | exact HB.out | apply z02q | apply z00q | apply z01q | refine z03q ?_ GE400.out) | exact HB.out))) : w.heap.size ≤ gb416)); have n7_ := Aside0.mk ((by rw [hg]; exact (z10q (by repeat (first | (with_reducible first | exact HB.out | apply z02q | apply z00q | apply z01q | refine z03q ?_ GE400.out) | exact HB.out))) : w.heap.size ≤ gb416)); have n8_ := Aside0.mk ((by rw [hg]; exact Nat.ne_of_lt (blk_lt (g := gb400) (o := .cells #[.int .i64 a0_0, .slice A0_1 l0_1.length c0_1] 24 (0, 0)) (by (with_reducible repeat (first | refine z06q ?_ _ | refine z07q ?_ | refine z05q ?_ _)); exact BK400.out)) : gb400 ≠ gb416)); have n9_ := Aside0.mk ((by rw [hg]; exact Nat.ne_of_gt (blk_lt (g := gb400) (o := .cells #[.int .i64 a0_0, .slice A0_1 l0_1.length c0_1] 24 (0, 0)) (by (with_reducible repeat (first | refine z06q ?_ _ | refine z07q ?_ | refine z05q ?_ _)); exact BK400.out)) : gb416 ≠ gb400)); clear HO408; clear HO411; clear HO414; clear BK400; clear HB; have HO408 := n0_; have HO411 := n1_; have HO414 := n2_; have BK400 := n3_; have HB := n4_; have BK416 := n5_; have GW416 := n6_; have GE416 := n7_; have NB400_416 := n8_; have NB416_400 := n9_; clear n0_ n1_ n2_ n3_ n4_ n5_ n6_ n7_ n8_ n9_; clear hb hbox hg; have hnb75 := NB416_400.out; have hnc75 := NB400_416.out; have hcz76_0 : w74.cell? ⟨gb416, 0, none⟩ = some (.bool false) := (z04q BK416.out 0).trans rfl; have hcz76_1 : w74.cell? ⟨gb416, 1, none⟩ = some (.slice none 0 0) := (z04q BK416.out 1).trans rfl; have hcz76_2 : w74.cell? ⟨gb416, 2, none⟩ = some (.slice none 0 0) := (z04q BK416.out 2).trans rfl; have hcz76_3 : w74.cell? ⟨gb416, 3, none⟩ = some (.slice none 0 0) := (z04q BK416.out 3).trans rfl; have hfz76_0 := z08q BK416.out 0; have hfz76_1 := z08q BK416.out 1; have hfz76_2 := z08q BK416.out 2; have hfz76_3 := z08q BK416.out 3; obtain ⟨Ao77, co77, eo77⟩ := Kd.R_slice HO408.out; subst eo77; obtain ⟨Ao78, co78, eo78⟩ := Kd.R_slice HO411.out; subst eo78; obtain ⟨Ao79, co79, eo79⟩ := Kd.R_slice HO414.out; subst eo79))
          have n0_ : Aside0 (Kd.R (Kd.int .u32) 96 ((((w74.setCell ⟨gb416, 0, none⟩ (.bool t405)).setCell ⟨gb416, 1, none⟩ (.slice Ao77 t406.length co77)).setCell ⟨gb416, 2, none⟩ (.slice Ao78 t409.length co78)).setCell ⟨gb416, 3, none⟩ (.slice Ao79 t412.length co79)) w.heap.size (fun k_ => some k_ ≠ (.slice Ao78 t409.length co78 : Value).ownBlock) (.slice Ao77 t406.length co77) t406) := ⟨by (with_reducible repeat (first | apply Kd.R_alloc | apply Kd.R_drewN | apply Kd.R_drew)); exact Kd.R_mono (Kd.R_far (p := ⟨gb416, 3, none⟩) (Kd.R_far (p := ⟨gb416, 2, none⟩) (Kd.R_far (p := ⟨gb416, 1, none⟩) (Kd.R_far (p := ⟨gb416, 0, none⟩) (Kd.R_types HO408.out BK416.out (by decide)) (fun _ hk => hk.2) (.bool t405)) (fun _ hk => hk.2) (.slice Ao77 t406.length co77)) (fun _ hk => hk.2) (.slice Ao78 t409.length co78)) (fun _ hk => hk.2) (.slice Ao79 t412.length co79)) (fun _ hk => by first | exact hk.1 | exact hk.1.1 | exact hk.1.2)⟩
          have n1_ : Aside0 (Kd.R (Kd.int .u32) 96 ((((w74.setCell ⟨gb416, 0, none⟩ (.bool t405)).setCell ⟨gb416, 1, none⟩ (.slice Ao77 t406.length co77)).setCell ⟨gb416, 2, none⟩ (.slice Ao78 t409.length co78)).setCell ⟨gb416, 3, none⟩ (.slice Ao79 t412.length co79)) w.heap.size (fun k_ => some k_ ≠ (.slice Ao77 t406.length co77 : Value).ownBlock) (.slice Ao78 t409.length co78) t409) := ⟨by (with_reducible repeat (first | apply Kd.R_alloc | apply Kd.R_drewN | apply Kd.R_drew)); exact Kd.R_mono (Kd.R_far (p := ⟨gb416, 3, none⟩) (Kd.R_far (p := ⟨gb416, 2, none⟩) (Kd.R_far (p := ⟨gb416, 1, none⟩) (Kd.R_far (p := ⟨gb416, 0, none⟩) (Kd.R_types HO411.out BK416.out (by decide)) (fun _ hk => hk.2) (.bool t405)) (fun _ hk => hk.2) (.slice Ao77 t406.length co77)) (fun _ hk => hk.2) (.slice Ao78 t409.length co78)) (fun _ hk => hk.2) (.slice Ao79 t412.length co79)) (fun _ hk => by first | exact hk.1 | exact hk.1.1 | exact hk.1.2)⟩
          have n2_ : Aside0 (Kd.R (Kd.int .i64) 3 ((((w74.setCell ⟨gb416, 0, none⟩ (.bool t405)).setCell ⟨gb416, 1, none⟩ (.slice Ao77 t406.length co77)).setCell ⟨gb416, 2, none⟩ (.slice Ao78 t409.length co78)).setCell ⟨gb416, 3, none⟩ (.slice Ao79 t412.length co79)) w.heap.size (fun _ => True) (.slice Ao79 t412.length co79) t412) := ⟨by (with_reducible repeat (first | apply Kd.R_alloc | apply Kd.R_drewN | apply Kd.R_drew)); exact Kd.R_mono (Kd.R_far (p := ⟨gb416, 3, none⟩) (Kd.R_far (p := ⟨gb416, 2, none⟩) (Kd.R_far (p := ⟨gb416, 1, none⟩) (Kd.R_far (p := ⟨gb416, 0, none⟩) (Kd.R_types HO414.out BK416.out (by decide)) (fun _ hk => hk.2) (.bool t405)) (fun _ hk => hk.2) (.slice Ao77 t406.length co77)) (fun _ hk => hk.2) (.slice Ao78 t409.length co78)) (fun _ hk => hk.2) (.slice Ao79 t412.length co79)) (fun _ hk => trivial)⟩
          have n3_ : Aside0 (((((w74.setCell ⟨gb416, 0, none⟩ (.bool t405)).setCell ⟨gb416, 1, none⟩ (.slice Ao77 t406.length co77)).setCell ⟨gb416, 2, none⟩ (.slice Ao78 t409.length co78)).setCell ⟨gb416, 3, none⟩ (.slice Ao79 t412.length co79)).heap[gb400]? = some (.cells #[.int .i64 a0_0, .slice A0_1 l0_1.length c0_1] 24 (0, 0))) := ⟨by (with_reducible repeat (first | refine z06q ?_ _ | refine z07q ?_ | refine z05q ?_ _)); refine blk_far ?_ NB400_416.out _; (with_reducible repeat (first | refine z06q ?_ _ | refine z07q ?_ | refine z05q ?_ _)); refine blk_far ?_ NB400_416.out _; (with_reducible repeat (first | refine z06q ?_ _ | refine z07q ?_ | refine z05q ?_ _)); refine blk_far ?_ NB400_416.out _; (with_reducible repeat (first | refine z06q ?_ _ | refine z07q ?_ | refine z05q ?_ _)); refine blk_far ?_ NB400_416.out _; (with_reducible repeat (first | refine z06q ?_ _ | refine z07q ?_ | refine z05q ?_ _)); exact BK400.out⟩
          have n4_ : Aside0 (((((w74.setCell ⟨gb416, 0, none⟩ (.bool t405)).setCell ⟨gb416, 1, none⟩ (.slice Ao77 t406.length co77)).setCell ⟨gb416, 2, none⟩ (.slice Ao78 t409.length co78)).setCell ⟨gb416, 3, none⟩ (.slice Ao79 t412.length co79)).heap[gb416]? = some (.cells #[.bool t405, .slice Ao77 t406.length co77, .slice Ao78 t409.length co78, .slice Ao79 t412.length co79] 41 (0, 0))) := ⟨by (with_reducible repeat (first | refine z06q ?_ _ | refine z07q ?_ | refine z05q ?_ _)); refine blk_put (cs := #[.bool t405, .slice Ao77 t406.length co77, .slice Ao78 t409.length co78, .slice none 0 0]) ?_ 3 _ rfl; (with_reducible repeat (first | refine z06q ?_ _ | refine z07q ?_ | refine z05q ?_ _)); refine blk_put (cs := #[.bool t405, .slice Ao77 t406.length co77, .slice none 0 0, .slice none 0 0]) ?_ 2 _ rfl; (with_reducible repeat (first | refine z06q ?_ _ | refine z07q ?_ | refine z05q ?_ _)); refine blk_put (cs := #[.bool t405, .slice none 0 0, .slice none 0 0, .slice none 0 0]) ?_ 1 _ rfl; (with_reducible repeat (first | refine z06q ?_ _ | refine z07q ?_ | refine z05q ?_ _)); refine blk_put (cs := #[.bool false, .slice none 0 0, .slice none 0 0, .slice none 0 0]) ?_ 0 _ rfl; (with_reducible repeat (first | refine z06q ?_ _ | refine z07q ?_ | refine z05q ?_ _)); exact BK416.out⟩
          have n5_ : Aside0 (Below w.heap.size w ((((w74.setCell ⟨gb416, 0, none⟩ (.bool t405)).setCell ⟨gb416, 1, none⟩ (.slice Ao77 t406.length co77)).setCell ⟨gb416, 2, none⟩ (.slice Ao78 t409.length co78)).setCell ⟨gb416, 3, none⟩ (.slice Ao79 t412.length co79))) := ⟨by repeat (first | (with_reducible first | exact HB.out | apply z02q | apply z00q | apply z01q | refine z03q ?_ GE400.out | refine z03q ?_ GE416.out) | exact HB.out)⟩
          (try clear HO408)
          (try clear HO411)
          (try clear HO414)
          (try clear BK400)
          (try clear BK416)
          (try clear HB)
          generalize ((((w74.setCell ⟨gb416, 0, none⟩ (.bool t405)).setCell ⟨gb416, 1, none⟩ (.slice Ao77 t406.length co77)).setCell ⟨gb416, 2, none⟩ (.slice Ao78 t409.length co78)).setCell ⟨gb416, 3, none⟩ (.slice Ao79 t412.length co79)) = w80 at n0_ n1_ n2_ n3_ n4_ n5_ ⊢
          have HO408 := n0_
          have HO411 := n1_
          have HO414 := n2_
          have BK400 := n3_
          have BK416 := n4_
          have HB := n5_
          clear n0_ n1_ n2_ n3_ n4_ n5_
          have n0_ := Aside0.mk (Kd.R_drew HO408.out)
          have n1_ := Aside0.mk (Kd.R_drew HO411.out)
          have n2_ := Aside0.mk (Kd.R_drew HO414.out)
          have n3_ := Aside0.mk (z07q BK400.out)
          have n4_ := Aside0.mk (z07q BK416.out)
          have n5_ := Aside0.mk (z01q HB.out)
          clear HO408
          clear HO411
          clear HO414
          clear BK400
          clear BK416
          clear HB
          have HO408 := n0_
          have HO411 := n1_
          have HO414 := n2_
          have BK400 := n3_
          have BK416 := n4_
          have HB := n5_
          clear n0_ n1_ n2_ n3_ n4_ n5_
          refine start_ (n := 15) (S := fun w' => True) (ds := []) #[false, false, false, false, false, false, false, false, false, false, false, false, false, false, false] (by kernel_rfl) rfl rfl trivial (fun hHeld => ?_); refine with_tabW offcutlaw16_KnapNone.tab4 offcutlaw16_KnapNone.bits4 (fun HT_ HW_ => ?_)
          generalize w80.drew = w81 at HO408 HO411 HO414 BK400 BK416 HB hHeld ⊢
          refine pure_ (i := 0) (N := some 48) (v := ?_) (a' := ?_) #[true, false, false, false, false, false, false, false, false, false, false, false, false, false, false] rfl rfl (any_of HT_.out (by kernel_rfl)) (fun _ _ _ h => h) (Or.inl ⟨by rfl, ?_⟩) ?_ ?_
          rotate_left
          · intro w'
            go_simp
            with_reducible rfl
          rotate_left
          · simp only [Act.put, List.setIfInBounds_toArray, List.set_cons_zero, List.set_cons_succ, i64_w, i32_w]
            rfl
          refine pure_ (i := 1) (N := some 49) (v := ?_) (a' := ?_) #[true, true, false, false, false, false, false, false, false, false, false, false, false, false, false] rfl rfl (any_of HT_.out (by kernel_rfl)) (fun _ _ _ h => h) (Or.inl ⟨by rfl, ?_⟩) ?_ ?_
          rotate_left
          · intro w'
            go_simp
            with_reducible rfl
          rotate_left
          · simp only [Act.put, List.setIfInBounds_toArray, List.set_cons_zero, List.set_cons_succ, i64_w, i32_w]
            rfl
          refine pure_ (i := 2) (N := some 50) (v := ?_) (a' := ?_) #[true, true, true, false, false, false, false, false, false, false, false, false, false, false, false] rfl rfl (any_of HT_.out (by kernel_rfl)) (fun _ _ _ h => h) (Or.inl ⟨by rfl, ?_⟩) ?_ ?_
          rotate_left
          · intro w'
            go_simp
            with_reducible rfl
          rotate_left
          · simp only [Act.put, List.setIfInBounds_toArray, List.set_cons_zero, List.set_cons_succ, i64_w, i32_w]
            rfl
          refine pure_ (i := 3) (N := some 51) (v := undef) (a' := ?_) #[true, true, true, true, false, false, false, false, false, false, false, false, false, false, false] rfl rfl (any_of HT_.out (by kernel_rfl)) (fun _ _ _ h => h) (Or.inr ⟨by rfl, rfl⟩) ?_ ?_
          rotate_left
          · simp only [Act.put, List.setIfInBounds_toArray, List.set_cons_zero, List.set_cons_succ, i64_w, i32_w]
            rfl
          refine pure_ (i := 4) (N := some 52) (v := undef) (a' := ?_) #[true, true, true, true, true, false, false, false, false, false, false, false, false, false, false] rfl rfl (any_of HT_.out (by kernel_rfl)) (fun _ _ _ h => h) (Or.inr ⟨by rfl, rfl⟩) ?_ ?_
          rotate_left
          · simp only [Act.put, List.setIfInBounds_toArray, List.set_cons_zero, List.set_cons_succ, i64_w, i32_w]
            rfl
          refine pure_ (i := 5) (N := some 53) (v := undef) (a' := ?_) #[true, true, true, true, true, true, false, false, false, false, false, false, false, false, false] rfl rfl (any_of HT_.out (by kernel_rfl)) (fun _ _ _ h => h) (Or.inr ⟨by rfl, rfl⟩) ?_ ?_
          rotate_left
          · simp only [Act.put, List.setIfInBounds_toArray, List.set_cons_zero, List.set_cons_succ, i64_w, i32_w]
            rfl
          refine pure_ (i := 6) (N := some 54) (v := undef) (a' := ?_) #[true, true, true, true, true, true, true, false, false, false, false, false, false, false, false] rfl rfl (any_of HT_.out (by kernel_rfl)) (fun _ _ _ h => h) (Or.inr ⟨by rfl, rfl⟩) ?_ ?_
          rotate_left
          · simp only [Act.put, List.setIfInBounds_toArray, List.set_cons_zero, List.set_cons_succ, i64_w, i32_w]
            rfl
          refine pure_ (i := 7) (N := some 55) (v := undef) (a' := ?_) #[true, true, true, true, true, true, true, true, false, false, false, false, false, false, false] rfl rfl (any_of HT_.out (by kernel_rfl)) (fun _ _ _ h => h) (Or.inr ⟨by rfl, rfl⟩) ?_ ?_
          rotate_left
          · simp only [Act.put, List.setIfInBounds_toArray, List.set_cons_zero, List.set_cons_succ, i64_w, i32_w]
            rfl
          refine pure_ (i := 8) (N := some 56) (v := undef) (a' := ?_) #[true, true, true, true, true, true, true, true, true, false, false, false, false, false, false] rfl rfl (any_of HT_.out (by kernel_rfl)) (fun _ _ _ h => h) (Or.inr ⟨by rfl, rfl⟩) ?_ ?_
          rotate_left
          · simp only [Act.put, List.setIfInBounds_toArray, List.set_cons_zero, List.set_cons_succ, i64_w, i32_w]
            rfl
          refine pure_ (i := 9) (N := some 57) (v := undef) (a' := ?_) #[true, true, true, true, true, true, true, true, true, true, false, false, false, false, false] rfl rfl (any_of HT_.out (by kernel_rfl)) (fun _ _ _ h => h) (Or.inr ⟨by rfl, rfl⟩) ?_ ?_
          rotate_left
          · simp only [Act.put, List.setIfInBounds_toArray, List.set_cons_zero, List.set_cons_succ, i64_w, i32_w]
            rfl
          refine pure_ (i := 10) (N := some 58) (v := ?_) (a' := ?_) #[true, true, true, true, true, true, true, true, true, true, true, false, false, false, false] rfl rfl (any_of HT_.out (by kernel_rfl)) (fun _ _ _ h => h) (Or.inl ⟨by rfl, ?_⟩) ?_ ?_
          rotate_left
          · intro w'
            go_simp
            with_reducible rfl
          rotate_left
          · simp only [Act.put, List.setIfInBounds_toArray, List.set_cons_zero, List.set_cons_succ, i64_w, i32_w]
            rfl
          refine pure_ (i := 11) (N := some 59) (v := ?_) (a' := ?_) #[true, true, true, true, true, true, true, true, true, true, true, true, false, false, false] rfl rfl (any_of HT_.out (by kernel_rfl)) (fun _ _ _ h => h) (Or.inl ⟨by rfl, ?_⟩) ?_ ?_
          rotate_left
          · intro w'
            go_simp
            with_reducible rfl
          rotate_left
          · simp only [Act.put, List.setIfInBounds_toArray, List.set_cons_zero, List.set_cons_succ, i64_w, i32_w]
            rfl
          refine pure_ (i := 12) (N := some 60) (v := undef) (a' := ?_) #[true, true, true, true, true, true, true, true, true, true, true, true, true, false, false] rfl rfl (any_of HT_.out (by kernel_rfl)) (fun _ _ _ h => h) (Or.inr ⟨by rfl, rfl⟩) ?_ ?_
          rotate_left
          · simp only [Act.put, List.setIfInBounds_toArray, List.set_cons_zero, List.set_cons_succ, i64_w, i32_w]
            rfl
          refine pure_ (i := 13) (N := some 61) (v := ?_) (a' := ?_) #[true, true, true, true, true, true, true, true, true, true, true, true, true, true, false] rfl rfl (any_of HT_.out (by kernel_rfl)) (fun _ _ _ h => h) (Or.inl ⟨by rfl, ?_⟩) ?_ ?_
          rotate_left
          · intro w'
            go_simp
            with_reducible rfl
          rotate_left
          · simp only [Act.put, List.setIfInBounds_toArray, List.set_cons_zero, List.set_cons_succ, i64_w, i32_w]
            rfl
          refine pure_ (i := 14) (N := some 6) (v := ?_) (a' := ?_) #[true, true, true, true, true, true, true, true, true, true, true, true, true, true, true] rfl rfl (any_of HT_.out (by kernel_rfl)) (fun _ _ _ h => h) (Or.inl ⟨by rfl, ?_⟩) ?_ ?_
          rotate_left
          · intro w'
            go_simp
            with_reducible rfl
          rotate_left
          · simp only [Act.put, List.setIfInBounds_toArray, List.set_cons_zero, List.set_cons_succ, i64_w, i32_w]
            rfl
          refine done_ (done_of HT_.out (by kernel_rfl)) ?_
          try go_wp2
          go_ret
          exact ⟨by first | rfl | (simp [z14q, z13q] <;> rfl) | (simp [*, z14q, z13q] <;> rfl), by repeat (first | (with_reducible first | exact HB.out | apply z02q | apply z00q | apply z01q | refine z03q ?_ GE400.out | refine z03q ?_ GE416.out) | exact HB.out)⟩
end Go.Proofs.Ytgnffmbaecabnaa.M
