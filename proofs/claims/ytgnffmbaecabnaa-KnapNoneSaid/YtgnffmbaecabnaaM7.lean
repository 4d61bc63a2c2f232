-- Printed by a program of this session's own (wip/myprint.py), out of the kit's print with functions given by hand. Lean checks it.
import Derived.Test.YtgnffmbaecabnaaM0
import Derived.Test.YtgnffmbaecabnaaM1
import Derived.Test.YtgnffmbaecabnaaM2
import Derived.Test.YtgnffmbaecabnaaM3
import Derived.Test.YtgnffmbaecabnaaM4
import Derived.Test.YtgnffmbaecabnaaM5
import Derived.Test.YtgnffmbaecabnaaM6
namespace Go.Proofs.Ytgnffmbaecabnaa.M
open Go.RowKit Go.Shelf Go.Proofs.YtgnffmbaecabnaaW.PrintWords Go.Proofs.YtgnffmbaecabnaaW.PrintLast Go.Proofs.YtgnffmbaecabnaaW.PrintMore
attribute [local go_sem] z33q z31q max_two min_two z28q z27q z32q z30q   -- for this text's walks alone
set_option linter.unusedVariables false
set_option linter.unusedSimpArgs false
def whole_Add.f (k : Nat) (a0_0 : Bool) (l0_1 : List Int) (a1_0 : Bool) (l1_1 : List Int) : Option (Bool × List Int) := (whole_Sign.f k a0_0 l0_1).bind fun t252 => ((whole_Sign.f k a1_0 l1_1).bind fun t253 => (if ((decide (t252 < 0)) == (decide (t253 < 0))) = true then ((whole_Sign.f k a0_0 l0_1).bind fun t254 => ((nat_Add.f k l0_1 l1_1).bind fun t255 => ((whole_Make.f k (decide (t254 < 0)) t255).bind fun bt258 => (some (bt258.1, bt258.2))))) else ((nat_Sub.f k l0_1 l1_1).bind fun bt262 => (if bt262.2 = true then ((whole_Sign.f k a0_0 l0_1).bind fun t266 => ((whole_Make.f k (decide (t266 < 0)) bt262.1).bind fun bt267 => (some (bt267.1, bt267.2)))) else ((nat_Sub.f k l1_1 l0_1).bind fun bt271 => ((whole_Sign.f k a1_0 l1_1).bind fun t275 => ((whole_Make.f k (decide (t275 < 0)) bt271.1).bind fun bt276 => (some (bt276.1, bt276.2)))))))))
theorem whole_Add.mono : ∀ a0 a1 a2 a3 k, LeO (whole_Add.f k a0 a1 a2 a3) (whole_Add.f (k + 1) a0 a1 a2 a3) := by
  intro a0 a1 a2 a3 k
  unfold whole_Add.f
  repeat' first
      | (with_reducible exact nat_Add.mono _ _ _)
      | (with_reducible exact nat_Sub.mono _ _ _)
      | (with_reducible exact whole_Make.mono _ _ _)
      | (with_reducible exact whole_Sign.mono _ _ _)
      | (with_reducible exact LeO.refl _)
      | (with_reducible exact LeO.none _)
      | (with_reducible refine LeO.ite ?_ ?_)
      | (with_reducible refine LeO.bind ?_ (fun _ => ?_))
      | exact nat_Add.mono _ _ _
      | exact nat_Sub.mono _ _ _
      | exact whole_Make.mono _ _ _
      | exact whole_Sign.mono _ _ _
      | exact LeO.none _
      | refine LeO.ite ?_ ?_
      | refine LeO.bind ?_ (fun _ => ?_)
def whole_Add.T2 : Bool × List (List Nat × List Nat) := (true, [([], []), ([0], [0]), ([1], [1]), ([], []), ([3], [3]), ([], []), ([5], [5]), ([4, 6, 1], [4, 6]), ([2, 7, 7], [2, 7]), ([8, 8, 0, 1, 2, 3, 4, 5, 6, 7, 8], [8])])
def whole_Add.B2 : List Nat := [0, 1, 3, 0, 8, 0, 32, 123, 255, 511]
theorem whole_Add.tab2 : rtab .any (opsOf Try.f41 2) = whole_Add.T2 := by kernel_rfl
theorem whole_Add.bits2 : waitsOk whole_Add.T2.2 whole_Add.B2 = true := by kernel_rfl
set_option maxHeartbeats 8000000 in
set_option maxRecDepth 100000 in
theorem whole_Add.calls (k : Nat) (a0_0 : Bool) (A0_1 : Option Addr) (c0_1 : Nat) (l0_1 : List Int) (a1_0 : Bool) (A1_1 : Option Addr) (c1_1 : Nat) (l1_1 : List Int) (r1 : Bool) (r2 : List Int) (w : World) (hr0_1 : Kd.C (Kd.int .u32) w A0_1 l0_1.length l0_1) (hc0_1 : l0_1.length ≤ c0_1) (hr1_1 : Kd.C (Kd.int .u32) w A1_1 l1_1.length l1_1) (hc1_1 : l1_1.length ≤ c1_1) (h : whole_Add.f k a0_0 l0_1 a1_0 l1_1 = some (r1, r2)) :
    Calls Try.prog 41 #[.agg #[.bool a0_0, .slice A0_1 l0_1.length c0_1], .agg #[.bool a1_0, .slice A1_1 l1_1.length c1_1]] w fun e w' => ∃ v1_ : Value, e = .returned (.agg #[.bool r1, v1_]) ∧ Kd.R (Kd.int .u32) 96 w' w.heap.size (fun _ => True) v1_ r2 ∧ Below w.heap.size w w' := by
  have hu37 := Try.underlying37
  have HR0_1 := Aside0.mk hr0_1
  have HC0_1 := Aside0.mk hc0_1
  clear hr0_1 hc0_1
  have HR1_1 := Aside0.mk hr1_1
  have HC1_1 := Aside0.mk hc1_1
  clear hr1_1 hc1_1
  have HB := Aside0.mk (Below.refl w.heap.size w)
  have H : ((whole_Sign.f k a0_0 l0_1).bind fun t252 => ((whole_Sign.f k a1_0 l1_1).bind fun t253 => (if ((decide (t252 < 0)) == (decide (t253 < 0))) = true then ((whole_Sign.f k a0_0 l0_1).bind fun t254 => ((nat_Add.f k l0_1 l1_1).bind fun t255 => ((whole_Make.f k (decide (t254 < 0)) t255).bind fun bt258 => (some (bt258.1, bt258.2))))) else ((nat_Sub.f k l0_1 l1_1).bind fun bt262 => (if bt262.2 = true then ((whole_Sign.f k a0_0 l0_1).bind fun t266 => ((whole_Make.f k (decide (t266 < 0)) bt262.1).bind fun bt267 => (some (bt267.1, bt267.2)))) else ((nat_Sub.f k l1_1 l0_1).bind fun bt271 => ((whole_Sign.f k a1_0 l1_1).bind fun t275 => ((whole_Make.f k (decide (t275 < 0)) bt271.1).bind fun bt276 => (some (bt276.1, bt276.2)))))))))) = some (r1, r2) := h
  clear h
  replace H := Option.bind_eq_some_iff.mp H
  obtain ⟨t252, A30, H⟩ := H
  replace H : ((whole_Sign.f k a1_0 l1_1).bind fun t253 => (if ((decide (t252 < 0)) == (decide (t253 < 0))) = true then ((whole_Sign.f k a0_0 l0_1).bind fun t254 => ((nat_Add.f k l0_1 l1_1).bind fun t255 => ((whole_Make.f k (decide (t254 < 0)) t255).bind fun bt258 => (some (bt258.1, bt258.2))))) else ((nat_Sub.f k l0_1 l1_1).bind fun bt262 => (if bt262.2 = true then ((whole_Sign.f k a0_0 l0_1).bind fun t266 => ((whole_Make.f k (decide (t266 < 0)) bt262.1).bind fun bt267 => (some (bt267.1, bt267.2)))) else ((nat_Sub.f k l1_1 l0_1).bind fun bt271 => ((whole_Sign.f k a1_0 l1_1).bind fun t275 => ((whole_Make.f k (decide (t275 < 0)) bt271.1).bind fun bt276 => (some (bt276.1, bt276.2))))))))) = some (r1, r2) := H
  have A3 := Aside0.mk A30
  clear A30
  replace H := Option.bind_eq_some_iff.mp H
  obtain ⟨t253, A40, H⟩ := H
  replace H : (if ((decide (t252 < 0)) == (decide (t253 < 0))) = true then ((whole_Sign.f k a0_0 l0_1).bind fun t254 => ((nat_Add.f k l0_1 l1_1).bind fun t255 => ((whole_Make.f k (decide (t254 < 0)) t255).bind fun bt258 => (some (bt258.1, bt258.2))))) else ((nat_Sub.f k l0_1 l1_1).bind fun bt262 => (if bt262.2 = true then ((whole_Sign.f k a0_0 l0_1).bind fun t266 => ((whole_Make.f k (decide (t266 < 0)) bt262.1).bind fun bt267 => (some (bt267.1, bt267.2)))) else ((nat_Sub.f k l1_1 l0_1).bind fun bt271 => ((whole_Sign.f k a1_0 l1_1).bind fun t275 => ((whole_Make.f k (decide (t275 < 0)) bt271.1).bind fun bt276 => (some (bt276.1, bt276.2)))))))) = some (r1, r2) := H
  have A4 := Aside0.mk A40
  clear A40
  by_cases c5 : ((decide (t252 < 0)) == (decide (t253 < 0))) = true
  · rw [if_pos c5] at H
    have c5b0 : ((decide (t252 < 0)) == (decide (t253 < 0))) = true := c5
    (try (have c5b1 : decide ((decide (t252 < 0)) = (decide (t253 < 0))) = true := by simpa using c5))
    (try (have c5b2 : ((decide (t252 < 0)) == (decide (t253 < 0))) = true := by simpa using c5))
    clear c5
    replace H := Option.bind_eq_some_iff.mp H
    obtain ⟨t254, A60, H⟩ := H
    replace H : ((nat_Add.f k l0_1 l1_1).bind fun t255 => ((whole_Make.f k (decide (t254 < 0)) t255).bind fun bt258 => (some (bt258.1, bt258.2)))) = some (r1, r2) := H
    have A6 := Aside0.mk A60
    clear A60
    replace H := Option.bind_eq_some_iff.mp H
    obtain ⟨t255, A70, H⟩ := H
    replace H : ((whole_Make.f k (decide (t254 < 0)) t255).bind fun bt258 => (some (bt258.1, bt258.2))) = some (r1, r2) := H
    have A7 := Aside0.mk A70
    clear A70
    replace H := Option.bind_eq_some_iff.mp H
    obtain ⟨⟨t258, t259⟩, A80, H⟩ := H
    replace H : (some (t258, t259)) = some (r1, r2) := H
    have A8 := Aside0.mk A80
    clear A80
    simp only [Option.some.injEq, Prod.mk.injEq] at H
    obtain ⟨rfl, rfl⟩ := H
    go_enter Try.func41, Try.ntmps41
    try go_wp2_with (first | ((with_reducible refine z18q (N := 2) rfl ?_); refine z17q ?hg (N := 2) ?hd (cs := #[.bool a0_0, .slice A0_1 l0_1.length c0_1]) (t := 37) ?hr ?_; (case hd => rfl); (case hg => rfl); (case hr => first | (go_simp; done) | (go_simp; rfl)); intro gb249 hg w9 hbox hb; have n0_ := Aside0.mk (z11q (by repeat (first | (with_reducible first | exact HB.out | apply z02q | apply z00q | apply z01q) | exact HB.out)) hb); have n1_ := Aside0.mk (hbox); have n2_ := Aside0.mk ((by rw [hg]; exact (z10q (by repeat (first | (with_reducible first | exact HB.out | apply z02q | apply z00q | apply z01q) | exact HB.out))) : w.heap.size ≤ gb249)); have n3_ := Aside0.mk ((by rw [hg]; exact (z10q (by repeat (first | (with_reducible first | exact HB.out | apply z02q | apply z00q | apply z01q) | exact HB.out))) : w.heap.size ≤ gb249)); clear HB; have HB := n0_; have BK249 := n1_; have GW249 := n2_; have GE249 := n3_; clear n0_ n1_ n2_ n3_; clear hb hbox hg) | ((with_reducible refine z18q (N := 3) rfl ?_); refine z17q ?hg (N := 3) ?hd (cs := #[.bool a1_0, .slice A1_1 l1_1.length c1_1]) (t := 37) ?hr ?_; (case hd => rfl); (case hg => rfl); (case hr => first | (go_simp; done) | (go_simp; rfl)); intro gb250 hg w10 hbox hb; have n0_ := Aside0.mk (z09q (g := gb249) (o := .cells #[.bool a0_0, .slice A0_1 l0_1.length c0_1] 37 (0, 0)) (by (with_reducible repeat (first | refine z06q ?_ _ | refine z07q ?_ | refine z05q ?_ _)); exact BK249.out) hb); have n1_ := Aside0.mk (z11q (by repeat (first | (with_reducible first | exact HB.out | apply z02q | apply z00q | apply z01q | refine z03q ?_ GE249.out) | exact HB.out)) hb); have n2_ := Aside0.mk (hbox); have n3_ := Aside0.mk ((by rw [hg]; exact (z10q (by repeat (first | (with_reducible first | exact HB.out | apply z02q | apply z00q | apply z01q | refine z03q ?_ GE249.out) | exact HB.out))) : w.heap.size ≤ gb250)); have n4_ := Aside0.mk ((by rw [hg]; exact (z10q (by repeat (first | (with_reducible first | exact HB.out | apply z02q | apply z00q | apply z01q | refine z03q ?_ GE249.out) | exact HB.out))) : w.heap.size ≤ gb250)); have n5_ := Aside0.mk ((by rw [hg]; exact Nat.ne_of_lt (blk_lt (g := gb249) (o := .cells #[.bool a0_0, .slice A0_1 l0_1.length c0_1] 37 (0, 0)) (by (with_reducible repeat (first | refine z06q ?_ _ | refine z07q ?_ | refine z05q ?_ _)); exact BK249.out)) : gb249 ≠ gb250)); have n6_ := Aside0.mk ((by rw [hg]; exact Nat.ne_of_gt (blk_lt (g := gb249) (o := .cells #[.bool a0_0, .slice A0_1 l0_1.length c0_1] 37 (0, 0)) (by (with_reducible repeat (first | refine z06q ?_ _ | refine z07q ?_ | refine z05q ?_ _)); exact BK249.out)) : gb250 ≠ gb249)); clear BK249; clear HB; have BK249 := n0_; have HB := n1_; have BK250 := n2_; have GW250 := n3_; have GE250 := n4_; have NB249_250 := n5_; have NB250_249 := n6_; clear n0_ n1_ n2_ n3_ n4_ n5_ n6_; clear hb hbox hg) | ((with_reducible refine z18q (N := 4) rfl ?_); refine z17q ?hg (N := 4) ?hd (cs := #[.bool false, .slice none 0 0]) (t := 37) ?hr ?_; (case hd => rfl); (case hg => rfl); (case hr => first | (go_simp; done) | (go_simp; rfl)); intro gb251 hg w11 hbox hb; have n0_ := Aside0.mk (z09q (g := gb249) (o := .cells #[.bool a0_0, .slice A0_1 l0_1.length c0_1] 37 (0, 0)) (by (with_reducible repeat (first | refine z06q ?_ _ | refine z07q ?_ | refine z05q ?_ _)); exact BK249.out) hb); have n1_ := Aside0.mk (z09q (g := gb250) (o := .cells #[.bool a1_0, .slice A1_1 l1_1.length c1_1] 37 (0, 0)) (by (with_reducible repeat (first | refine z06q ?_ _ | refine z07q ?_ | refine z05q ?_ _)); exact BK250.out) hb); have n2_ := Aside0.mk (z11q (by repeat (first | (with_reducible first | exact HB.out | apply z02q | apply z00q | apply z01q | refine z03q ?_ GE249.out | refine z03q ?_ GE250.out) | exact HB.out)) hb); have n3_ := Aside0.mk (hbox); have n4_ := Aside0.mk ((by rw [hg]; exact (z10q (by repeat (first | (with_reducible first | exact HB.out | apply z02q | apply z00q | apply z01q | refine z03q ?_ GE249.out | refine z03q ?_ GE250.out) | exact HB.out))) : w.heap.size ≤ gb251)); have n5_ := Aside0.mk ((by rw [hg]; exact (z10q (by repeat (first | (with_reducible first | exact HB.out | apply z02q | apply z00q | apply z01q | refine z03q ?_ GE249.out | refine z03q ?_ GE250.out) | exact HB.out))) : w.heap.size ≤ gb251)); have n6_ := Aside0.mk ((by rw [hg]; exact Nat.ne_of_lt (blk_lt (g := gb249) (o := .cells #[.bool a0_0, .slice A0_1 l0_1.length c0_1] 37 (0, 0)) (by (with_reducible repeat (first | refine z06q ?_ _ | refine z07q ?_ | refine z05q ?_ _)); exact BK249.out)) : gb249 ≠ gb251)); have n7_ := Aside0.mk ((by rw [hg]; exact Nat.ne_of_gt (blk_lt (g := gb249) (o := .cells #[.bool a0_0, .slice A0_1 l0_1.length c0_1] 37 (0, 0)) (by (with_reducible repeat (first | refine z06q ?_ _ | refine z07q ?_ | refine z05q ?_ _)); exact BK249.out)) : gb251 ≠ gb249)); have n8_ := Aside0.mk ((by rw [hg]; exact Nat.ne_of_lt (blk_lt (g := gb250) (o := .cells #[.bool a1_0, .slice A1_1 l1_1.length c1_1] 37 (0, 0)) (by (with_reducible repeat (first | refine z06q ?_ _ | refine z07q ?_ | refine z05q ?_ _)); exact BK250.out)) : gb250 ≠ gb251)); have n9_ := Aside0.mk ((by rw [hg]; exact Nat.ne_of_gt (blk_lt (g := gb250) (o := .cells #[.bool a1_0, .slice A1_1 l1_1.length c1_1] 37 (0, 0)) (by (with_reducible repeat (first | refine z06q ?_ _ | refine z07q ?_ | refine z05q ?_ _)); exact BK250.out)) : gb251 ≠ gb250)); clear BK249; clear BK250; clear HB; have BK249 := n0_; have BK250 := n1_; have HB := n2_; have BK251 := n3_; have GW251 := n4_; have GE251 := n5_; have NB249_251 := n6_; have NB251_249 := n7_; have NB250_251 := n8_; have NB251_250 := n9_; clear n0_ n1_ n2_ n3_ n4_ n5_ n6_ n7_ n8_ n9_; clear hb hbox hg))
    have n0_ := Aside0.mk (z07q BK249.out)
    have n1_ := Aside0.mk (z07q BK250.out)
    have n2_ := Aside0.mk (z07q BK251.out)
    have n3_ := Aside0.mk (z01q HB.out)
    clear BK249
    clear BK250
    clear BK251
    clear HB
    have BK249 := n0_
    have BK250 := n1_
    have BK251 := n2_
    have HB := n3_
    clear n0_ n1_ n2_ n3_
    refine start_ (n := 7) (S := fun w' => w'.cell? ⟨gb249, 0, none⟩ = some (.bool a0_0) ∧ w'.cell? ⟨gb249, 1, none⟩ = some (.slice A0_1 l0_1.length c0_1) ∧ w'.cell? ⟨gb250, 0, none⟩ = some (.bool a1_0) ∧ w'.cell? ⟨gb250, 1, none⟩ = some (.slice A1_1 l1_1.length c1_1)) (ds := []) #[false, false, false, false, false, false, false] (by kernel_rfl) rfl rfl ⟨(z04q BK249.out 0).trans rfl, (z04q BK249.out 1).trans rfl, (z04q BK250.out 0).trans rfl, (z04q BK250.out 1).trans rfl⟩ (fun hHeld => ?_)
    generalize w11.drew = w12 at BK249 BK250 BK251 HB hHeld ⊢
    refine take_ (i := 0) (N := some 9) (v := ?_) (a' := ?_) #[true, false, false, false, false, false, false] rfl rfl (by kernel_rfl) (fun _ _ _ h => h) (Or.inl ⟨by rfl, ?_⟩) hHeld ?_ ?_
    rotate_left
    · rintro w' ⟨s0, s1, s2, s3⟩
      go_simp
      with_reducible rfl
    rotate_left
    · simp only [Act.put, List.setIfInBounds_toArray, List.set_cons_zero, List.set_cons_succ, i64_w, i32_w]
      rfl
    refine take_ (i := 3) (N := some 12) (v := ?_) (a' := ?_) #[true, false, false, true, false, false, false] rfl rfl (by kernel_rfl) (fun _ _ _ h => h) (Or.inl ⟨by rfl, ?_⟩) hHeld ?_ ?_
    rotate_left
    · rintro w' ⟨s0, s1, s2, s3⟩
      go_simp
      with_reducible rfl
    rotate_left
    · simp only [Act.put, List.setIfInBounds_toArray, List.set_cons_zero, List.set_cons_succ, i64_w, i32_w]
      rfl
    refine one_ (i := 1) (N := some 10) #[true, true, false, true, false, false, false] rfl rfl (by kernel_rfl) (by decide) (fun K hK => ?_)
    refine goes_ Try.func44 (by kernel_rfl) rfl #[.agg #[.bool a0_0, .slice A0_1 l0_1.length c0_1]] (by rfl) rfl rfl (by (try simp only [List.map_toArray, List.map_cons, List.map_nil]); first | done | rfl | (simp only [List.length_drop, List.length_take]; rfl)) ?_
    with_reducible refine (whole_Sign.calls k a0_0 _ _ l0_1 t252 _ ?side1 ?side2 A3.out).mono ?_
    (case side1 => repeat (first | exact (Kd.C_below HR0_1.out HB.out) | (with_reducible refine Kd.C_alloc ?_ _) | (with_reducible refine Kd.C_drewN ?_ _) | (with_reducible refine Kd.C_drew ?_)))
    (case side2 => exact HC0_1.out)
    rintro e w13 ⟨rfl, hb⟩
    refine ⟨_, rfl, ?_⟩
    have n0_ := Aside0.mk (z09q (g := gb249) (o := .cells #[.bool a0_0, .slice A0_1 l0_1.length c0_1] 37 (0, 0)) (by (with_reducible repeat (first | refine z06q ?_ _ | refine z07q ?_ | refine z05q ?_ _)); exact BK249.out) hb)
    have n1_ := Aside0.mk (z09q (g := gb250) (o := .cells #[.bool a1_0, .slice A1_1 l1_1.length c1_1] 37 (0, 0)) (by (with_reducible repeat (first | refine z06q ?_ _ | refine z07q ?_ | refine z05q ?_ _)); exact BK250.out) hb)
    have n2_ := Aside0.mk (z09q (g := gb251) (o := .cells #[.bool false, .slice none 0 0] 37 (0, 0)) (by (with_reducible repeat (first | refine z06q ?_ _ | refine z07q ?_ | refine z05q ?_ _)); exact BK251.out) hb)
    have n3_ := Aside0.mk (z11q (by repeat (first | (with_reducible first | exact HB.out | apply z02q | apply z00q | apply z01q | refine z03q ?_ GE249.out | refine z03q ?_ GE250.out | refine z03q ?_ GE251.out) | exact HB.out)) hb)
    clear BK249
    clear BK250
    clear BK251
    clear HB
    have BK249 := n0_
    have BK250 := n1_
    have BK251 := n2_
    have HB := n3_
    clear n0_ n1_ n2_ n3_
    (try clear hb)
    (try clear hb2)
    (try clear hk)
    (try clear hi)
    refine hK.out _ _ ⟨(z04q BK249.out 0).trans rfl, (z04q BK249.out 1).trans rfl, (z04q BK250.out 0).trans rfl, (z04q BK250.out 1).trans rfl⟩ (fun hHeld => ?_)
    clear hK K
    refine norm_ (a' := ?_) ?_ ?_
    rotate_left
    · show Act.put _ (some 10) _ = _
      simp only [Act.put, List.setIfInBounds_toArray, List.set_cons_zero, List.set_cons_succ, i64_w, i32_w]
      rfl
    refine pure_ (i := 2) (N := some 11) (v := ?_) (a' := ?_) #[true, true, true, true, false, false, false] rfl rfl (by kernel_rfl) (fun _ _ _ h => h) (Or.inl ⟨by rfl, ?_⟩) ?_ ?_
    rotate_left
    · intro w'
      go_simp
      with_reducible rfl
    rotate_left
    · simp only [Act.put, List.setIfInBounds_toArray, List.set_cons_zero, List.set_cons_succ, i64_w, i32_w]
      rfl
    refine one_ (i := 4) (N := some 13) #[true, true, true, true, true, false, false] rfl rfl (by kernel_rfl) (by decide) (fun K hK => ?_)
    refine goes_ Try.func44 (by kernel_rfl) rfl #[.agg #[.bool a1_0, .slice A1_1 l1_1.length c1_1]] (by rfl) rfl rfl (by (try simp only [List.map_toArray, List.map_cons, List.map_nil]); first | done | rfl | (simp only [List.length_drop, List.length_take]; rfl)) ?_
    with_reducible refine (whole_Sign.calls k a1_0 _ _ l1_1 t253 _ ?side1 ?side2 A4.out).mono ?_
    (case side1 => repeat (first | exact (Kd.C_below HR1_1.out HB.out) | (with_reducible refine Kd.C_alloc ?_ _) | (with_reducible refine Kd.C_drewN ?_ _) | (with_reducible refine Kd.C_drew ?_)))
    (case side2 => exact HC1_1.out)
    rintro e w14 ⟨rfl, hb⟩
    refine ⟨_, rfl, ?_⟩
    have n0_ := Aside0.mk (z09q (g := gb249) (o := .cells #[.bool a0_0, .slice A0_1 l0_1.length c0_1] 37 (0, 0)) (by (with_reducible repeat (first | refine z06q ?_ _ | refine z07q ?_ | refine z05q ?_ _)); exact BK249.out) hb)
    have n1_ := Aside0.mk (z09q (g := gb250) (o := .cells #[.bool a1_0, .slice A1_1 l1_1.length c1_1] 37 (0, 0)) (by (with_reducible repeat (first | refine z06q ?_ _ | refine z07q ?_ | refine z05q ?_ _)); exact BK250.out) hb)
    have n2_ := Aside0.mk (z09q (g := gb251) (o := .cells #[.bool false, .slice none 0 0] 37 (0, 0)) (by (with_reducible repeat (first | refine z06q ?_ _ | refine z07q ?_ | refine z05q ?_ _)); exact BK251.out) hb)
    have n3_ := Aside0.mk (z11q (by repeat (first | (with_reducible first | exact HB.out | apply z02q | apply z00q | apply z01q | refine z03q ?_ GE249.out | refine z03q ?_ GE250.out | refine z03q ?_ GE251.out) | exact HB.out)) hb)
    clear BK249
    clear BK250
    clear BK251
    clear HB
    have BK249 := n0_
    have BK250 := n1_
    have BK251 := n2_
    have HB := n3_
    clear n0_ n1_ n2_ n3_
    (try clear hb)
    (try clear hb2)
    (try clear hk)
    (try clear hi)
    refine hK.out _ _ ⟨(z04q BK249.out 0).trans rfl, (z04q BK249.out 1).trans rfl, (z04q BK250.out 0).trans rfl, (z04q BK250.out 1).trans rfl⟩ (fun hHeld => ?_)
    clear hK K
    refine norm_ (a' := ?_) ?_ ?_
    rotate_left
    · show Act.put _ (some 13) _ = _
      simp only [Act.put, List.setIfInBounds_toArray, List.set_cons_zero, List.set_cons_succ, i64_w, i32_w]
      rfl
    refine pure_ (i := 5) (N := some 14) (v := ?_) (a' := ?_) #[true, true, true, true, true, true, false] rfl rfl (by kernel_rfl) (fun _ _ _ h => h) (Or.inl ⟨by rfl, ?_⟩) ?_ ?_
    rotate_left
    · intro w'
      go_simp
      with_reducible rfl
    rotate_left
    · simp only [Act.put, List.setIfInBounds_toArray, List.set_cons_zero, List.set_cons_succ, i64_w, i32_w]
      rfl
    refine pure_ (i := 6) (N := some 15) (v := ?_) (a' := ?_) #[true, true, true, true, true, true, true] rfl rfl (by kernel_rfl) (fun _ _ _ h => h) (Or.inl ⟨by rfl, ?_⟩) ?_ ?_
    rotate_left
    · intro w'
      go_simp
      with_reducible rfl
    rotate_left
    · simp only [Act.put, List.setIfInBounds_toArray, List.set_cons_zero, List.set_cons_succ, i64_w, i32_w]
      rfl
    refine done_ (by kernel_rfl) ?_
    try go_wp2
    have n0_ := Aside0.mk (z07q BK249.out)
    have n1_ := Aside0.mk (z07q BK250.out)
    have n2_ := Aside0.mk (z07q BK251.out)
    have n3_ := Aside0.mk (z01q HB.out)
    clear BK249
    clear BK250
    clear BK251
    clear HB
    have BK249 := n0_
    have BK250 := n1_
    have BK251 := n2_
    have HB := n3_
    clear n0_ n1_ n2_ n3_
    refine start_ (n := 10) (S := fun w' => w'.cell? ⟨gb249, 0, none⟩ = some (.bool a0_0) ∧ w'.cell? ⟨gb249, 1, none⟩ = some (.slice A0_1 l0_1.length c0_1) ∧ w'.cell? ⟨gb250, 0, none⟩ = some (.bool a1_0) ∧ w'.cell? ⟨gb250, 1, none⟩ = some (.slice A1_1 l1_1.length c1_1)) (ds := []) #[false, false, false, false, false, false, false, false, false, false] (by kernel_rfl) rfl rfl ⟨(z04q BK249.out 0).trans rfl, (z04q BK249.out 1).trans rfl, (z04q BK250.out 0).trans rfl, (z04q BK250.out 1).trans rfl⟩ (fun hHeld => ?_); refine with_tabW whole_Add.tab2 whole_Add.bits2 (fun HT_ HW_ => ?_)
    generalize w14.drew = w15 at BK249 BK250 BK251 HB hHeld ⊢
    refine pure_ (i := 3) (N := some 19) (v := ?_) (a' := ?_) #[false, false, false, true, false, false, false, false, false, false] rfl rfl (any_of HT_.out (by kernel_rfl)) (fun _ _ _ h => h) (Or.inl ⟨by rfl, ?_⟩) ?_ ?_
    rotate_left
    · intro w'
      go_simp
      with_reducible rfl
    rotate_left
    · simp only [Act.put, List.setIfInBounds_toArray, List.set_cons_zero, List.set_cons_succ, i64_w, i32_w]
      rfl
    refine pure_ (i := 5) (N := some 21) (v := ?_) (a' := ?_) #[false, false, false, true, false, true, false, false, false, false] rfl rfl (any_of HT_.out (by kernel_rfl)) (fun _ _ _ h => h) (Or.inl ⟨by rfl, ?_⟩) ?_ ?_
    rotate_left
    · intro w'
      go_simp
      with_reducible rfl
    rotate_left
    · simp only [Act.put, List.setIfInBounds_toArray, List.set_cons_zero, List.set_cons_succ, i64_w, i32_w]
      rfl
    refine take_ (i := 0) (N := some 16) (v := ?_) (a' := ?_) #[true, false, false, true, false, true, false, false, false, false] rfl rfl (z29q HT_.out HW_.out (by kernel_rfl)) (fun _ _ _ h => h) (Or.inl ⟨by rfl, ?_⟩) hHeld ?_ ?_
    rotate_left
    · rintro w' ⟨s0, s1, s2, s3⟩
      go_simp
      with_reducible rfl
    rotate_left
    · simp only [Act.put, List.setIfInBounds_toArray, List.set_cons_zero, List.set_cons_succ, i64_w, i32_w]
      rfl
    refine take_ (i := 4) (N := some 20) (v := ?_) (a' := ?_) #[true, false, false, true, true, true, false, false, false, false] rfl rfl (z29q HT_.out HW_.out (by kernel_rfl)) (fun _ _ _ h => h) (Or.inl ⟨by rfl, ?_⟩) hHeld ?_ ?_
    rotate_left
    · rintro w' ⟨s0, s1, s2, s3⟩
      go_simp
      with_reducible rfl
    rotate_left
    · simp only [Act.put, List.setIfInBounds_toArray, List.set_cons_zero, List.set_cons_succ, i64_w, i32_w]
      rfl
    refine take_ (i := 6) (N := some 22) (v := ?_) (a' := ?_) #[true, false, false, true, true, true, true, false, false, false] rfl rfl (z29q HT_.out HW_.out (by kernel_rfl)) (fun _ _ _ h => h) (Or.inl ⟨by rfl, ?_⟩) hHeld ?_ ?_
    rotate_left
    · rintro w' ⟨s0, s1, s2, s3⟩
      go_simp
      with_reducible rfl
    rotate_left
    · simp only [Act.put, List.setIfInBounds_toArray, List.set_cons_zero, List.set_cons_succ, i64_w, i32_w]
      rfl
    refine one_ (i := 1) (N := some 17) #[true, true, false, true, true, true, true, false, false, false] rfl rfl (one_of HT_.out (by kernel_rfl)) (by decide) (fun K hK => ?_)
    refine goes_ Try.func44 (by kernel_rfl) rfl #[.agg #[.bool a0_0, .slice A0_1 l0_1.length c0_1]] (by rfl) rfl rfl (by (try simp only [List.map_toArray, List.map_cons, List.map_nil]); first | done | rfl | (simp only [List.length_drop, List.length_take]; rfl)) ?_
    with_reducible refine (whole_Sign.calls k a0_0 _ _ l0_1 t254 _ ?side1 ?side2 A6.out).mono ?_
    (case side1 => repeat (first | exact (Kd.C_below HR0_1.out HB.out) | (with_reducible refine Kd.C_alloc ?_ _) | (with_reducible refine Kd.C_drewN ?_ _) | (with_reducible refine Kd.C_drew ?_)))
    (case side2 => exact HC0_1.out)
    rintro e w16 ⟨rfl, hb⟩
    refine ⟨_, rfl, ?_⟩
    have n0_ := Aside0.mk (z09q (g := gb249) (o := .cells #[.bool a0_0, .slice A0_1 l0_1.length c0_1] 37 (0, 0)) (by (with_reducible repeat (first | refine z06q ?_ _ | refine z07q ?_ | refine z05q ?_ _)); exact BK249.out) hb)
    have n1_ := Aside0.mk (z09q (g := gb250) (o := .cells #[.bool a1_0, .slice A1_1 l1_1.length c1_1] 37 (0, 0)) (by (with_reducible repeat (first | refine z06q ?_ _ | refine z07q ?_ | refine z05q ?_ _)); exact BK250.out) hb)
    have n2_ := Aside0.mk (z09q (g := gb251) (o := .cells #[.bool false, .slice none 0 0] 37 (0, 0)) (by (with_reducible repeat (first | refine z06q ?_ _ | refine z07q ?_ | refine z05q ?_ _)); exact BK251.out) hb)
    have n3_ := Aside0.mk (z11q (by repeat (first | (with_reducible first | exact HB.out | apply z02q | apply z00q | apply z01q | refine z03q ?_ GE249.out | refine z03q ?_ GE250.out | refine z03q ?_ GE251.out) | exact HB.out)) hb)
    clear BK249
    clear BK250
    clear BK251
    clear HB
    have BK249 := n0_
    have BK250 := n1_
    have BK251 := n2_
    have HB := n3_
    clear n0_ n1_ n2_ n3_
    (try clear hb)
    (try clear hb2)
    (try clear hk)
    (try clear hi)
    refine hK.out _ _ ⟨(z04q BK249.out 0).trans rfl, (z04q BK249.out 1).trans rfl, (z04q BK250.out 0).trans rfl, (z04q BK250.out 1).trans rfl⟩ (fun hHeld => ?_)
    clear hK K
    refine norm_ (a' := ?_) ?_ ?_
    rotate_left
    · show Act.put _ (some 17) _ = _
      simp only [Act.put, List.setIfInBounds_toArray, List.set_cons_zero, List.set_cons_succ, i64_w, i32_w]
      rfl
    refine pure_ (i := 2) (N := some 18) (v := ?_) (a' := ?_) #[true, true, true, true, true, true, true, false, false, false] rfl rfl (any_of HT_.out (by kernel_rfl)) (fun _ _ _ h => h) (Or.inl ⟨by rfl, ?_⟩) ?_ ?_
    rotate_left
    · intro w'
      go_simp
      with_reducible rfl
    rotate_left
    · simp only [Act.put, List.setIfInBounds_toArray, List.set_cons_zero, List.set_cons_succ, i64_w, i32_w]
      rfl
    refine one_ (i := 7) (N := some 23) #[true, true, true, true, true, true, true, true, false, false] rfl rfl (one_of HT_.out (by kernel_rfl)) (by decide) (fun K hK => ?_)
    refine goes_ Try.func55 (by kernel_rfl) rfl #[.slice A0_1 l0_1.length c0_1, .slice A1_1 l1_1.length c1_1] (by rfl) rfl rfl (by (try simp only [List.map_toArray, List.map_cons, List.map_nil]); first | done | rfl | (simp only [List.length_drop, List.length_take]; rfl)) ?_
    with_reducible refine (nat_Add.calls k _ _ l0_1 _ _ l1_1 t255 _ ?side1 ?side2 ?side3 ?side4 A7.out).mono ?_
    (case side1 => repeat (first | exact (Kd.C_below HR0_1.out HB.out) | (with_reducible refine Kd.C_alloc ?_ _) | (with_reducible refine Kd.C_drewN ?_ _) | (with_reducible refine Kd.C_drew ?_)))
    (case side2 => exact HC0_1.out)
    (case side3 => repeat (first | exact (Kd.C_below HR1_1.out HB.out) | (with_reducible refine Kd.C_alloc ?_ _) | (with_reducible refine Kd.C_drewN ?_ _) | (with_reducible refine Kd.C_drew ?_)))
    (case side4 => exact HC1_1.out)
    rintro e w17 ⟨v256, rfl, ho0, hb⟩
    refine ⟨_, rfl, ?_⟩
    have n0_ := Aside0.mk (Kd.R_lower ho0 (z10q (by repeat (first | (with_reducible first | exact HB.out | apply z02q | apply z00q | apply z01q | refine z03q ?_ GE249.out | refine z03q ?_ GE250.out | refine z03q ?_ GE251.out) | exact HB.out))))
    have n1_ := Aside0.mk (z09q (g := gb249) (o := .cells #[.bool a0_0, .slice A0_1 l0_1.length c0_1] 37 (0, 0)) (by (with_reducible repeat (first | refine z06q ?_ _ | refine z07q ?_ | refine z05q ?_ _)); exact BK249.out) hb)
    have n2_ := Aside0.mk (z09q (g := gb250) (o := .cells #[.bool a1_0, .slice A1_1 l1_1.length c1_1] 37 (0, 0)) (by (with_reducible repeat (first | refine z06q ?_ _ | refine z07q ?_ | refine z05q ?_ _)); exact BK250.out) hb)
    have n3_ := Aside0.mk (z09q (g := gb251) (o := .cells #[.bool false, .slice none 0 0] 37 (0, 0)) (by (with_reducible repeat (first | refine z06q ?_ _ | refine z07q ?_ | refine z05q ?_ _)); exact BK251.out) hb)
    have n4_ := Aside0.mk (z11q (by repeat (first | (with_reducible first | exact HB.out | apply z02q | apply z00q | apply z01q | refine z03q ?_ GE249.out | refine z03q ?_ GE250.out | refine z03q ?_ GE251.out) | exact HB.out)) hb)
    clear BK249
    clear BK250
    clear BK251
    clear HB
    have HO257 := n0_
    have BK249 := n1_
    have BK250 := n2_
    have BK251 := n3_
    have HB := n4_
    clear n0_ n1_ n2_ n3_ n4_
    (try clear hb)
    (try clear hb2)
    (try clear hk)
    (try clear hi)
    (try clear ho0)
    obtain ⟨Ao18, co18, eo18⟩ := Kd.R_slice HO257.out
    (first | subst eo18 | (injection eo18 with f1_ f2_ f3_; have f4_ := f1_.symm; have f5_ := f3_.symm; clear f1_ f2_ f3_; subst f4_; subst f5_))
    refine hK.out _ _ ⟨(z04q BK249.out 0).trans rfl, (z04q BK249.out 1).trans rfl, (z04q BK250.out 0).trans rfl, (z04q BK250.out 1).trans rfl⟩ (fun hHeld => ?_)
    clear hK K
    refine norm_ (a' := ?_) ?_ ?_
    rotate_left
    · show Act.put _ (some 23) _ = _
      simp only [Act.put, List.setIfInBounds_toArray, List.set_cons_zero, List.set_cons_succ, i64_w, i32_w]
      rfl
    refine one_ (i := 8) (N := some 24) #[true, true, true, true, true, true, true, true, true, false] rfl rfl (one_of HT_.out (by kernel_rfl)) (by decide) (fun K hK => ?_)
    refine goes_ Try.func47 (by kernel_rfl) rfl #[.bool (decide (t254 < 0)), .slice Ao18 t255.length co18] (by rfl) rfl rfl (by (try simp only [List.map_toArray, List.map_cons, List.map_nil]); first | done | rfl | (simp only [List.length_drop, List.length_take]; rfl)) ?_
    with_reducible refine (whole_Make.calls k (decide (t254 < 0)) _ _ t255 t258 t259 _ ?side1 ?side2 A8.out).mono ?_
    (case side1 => repeat (first | exact (Kd.R_reads' HO257.out).2.2 | (with_reducible refine Kd.C_alloc ?_ _) | (with_reducible refine Kd.C_drewN ?_ _) | (with_reducible refine Kd.C_drew ?_)))
    (case side2 => exact (Kd.R_reads' HO257.out).2.1)
    rintro e w19 ⟨v260, rfl, ho0, hb⟩
    refine ⟨_, rfl, ?_⟩
    have n0_ := Aside0.mk (Kd.R_elder' (by (with_reducible repeat (first | apply Kd.R_alloc | apply Kd.R_drewN | apply Kd.R_drew)); exact HO257.out) (Kd.R_base ho0) hb)
    have n1_ := Aside0.mk (Kd.R_lower (Kd.R_new' ho0 (Kd.R_lt (by (with_reducible repeat (first | apply Kd.R_alloc | apply Kd.R_drewN | apply Kd.R_drew)); exact HO257.out))) (z10q (by repeat (first | (with_reducible first | exact HB.out | apply z02q | apply z00q | apply z01q | refine z03q ?_ GE249.out | refine z03q ?_ GE250.out | refine z03q ?_ GE251.out) | exact HB.out))))
    have n2_ := Aside0.mk (z09q (g := gb249) (o := .cells #[.bool a0_0, .slice A0_1 l0_1.length c0_1] 37 (0, 0)) (by (with_reducible repeat (first | refine z06q ?_ _ | refine z07q ?_ | refine z05q ?_ _)); exact BK249.out) hb)
    have n3_ := Aside0.mk (z09q (g := gb250) (o := .cells #[.bool a1_0, .slice A1_1 l1_1.length c1_1] 37 (0, 0)) (by (with_reducible repeat (first | refine z06q ?_ _ | refine z07q ?_ | refine z05q ?_ _)); exact BK250.out) hb)
    have n4_ := Aside0.mk (z09q (g := gb251) (o := .cells #[.bool false, .slice none 0 0] 37 (0, 0)) (by (with_reducible repeat (first | refine z06q ?_ _ | refine z07q ?_ | refine z05q ?_ _)); exact BK251.out) hb)
    have n5_ := Aside0.mk (z11q (by repeat (first | (with_reducible first | exact HB.out | apply z02q | apply z00q | apply z01q | refine z03q ?_ GE249.out | refine z03q ?_ GE250.out | refine z03q ?_ GE251.out) | exact HB.out)) hb)
    clear HO257
    clear BK249
    clear BK250
    clear BK251
    clear HB
    have HO257 := n0_
    have HO261 := n1_
    have BK249 := n2_
    have BK250 := n3_
    have BK251 := n4_
    have HB := n5_
    clear n0_ n1_ n2_ n3_ n4_ n5_
    (try clear hb)
    (try clear hb2)
    (try clear hk)
    (try clear hi)
    (try clear ho0)
    obtain ⟨Ao21, co21, eo21⟩ := Kd.R_slice HO261.out
    (first | subst eo21 | (injection eo21 with f1_ f2_ f3_; have f4_ := f1_.symm; have f5_ := f3_.symm; clear f1_ f2_ f3_; subst f4_; subst f5_))
    refine hK.out _ _ ⟨(z04q BK249.out 0).trans rfl, (z04q BK249.out 1).trans rfl, (z04q BK250.out 0).trans rfl, (z04q BK250.out 1).trans rfl⟩ (fun hHeld => ?_)
    clear hK K
    refine norm_ (a' := ?_) ?_ ?_
    rotate_left
    · show Act.put _ (some 24) _ = _
      simp only [Act.put, List.setIfInBounds_toArray, List.set_cons_zero, List.set_cons_succ, i64_w, i32_w]
      rfl
    refine one_ (i := 9) (N := none) #[true, true, true, true, true, true, true, true, true, true] rfl rfl (one_of HT_.out (by kernel_rfl)) (by decide) (fun K hK => ?_)
    have hs20 : w19.cell? ⟨gb251, 0, none⟩ = some (.bool false) := (z04q BK251.out 0).trans rfl
    have hfs20 := z08q BK251.out 0
    have hns20_0 := NB249_251.out
    have hns20_1 := NB250_251.out
    have hms20_0 := NB251_249.out
    have hms20_1 := NB251_250.out
    have hs22 : w19.cell? ⟨gb251, 1, none⟩ = some (.slice none 0 0) := (z04q BK251.out 1).trans rfl
    have hfs22 := z08q BK251.out 1
    have hns22_0 := NB249_251.out
    have hns22_1 := NB250_251.out
    have hms22_0 := NB251_249.out
    have hms22_1 := NB251_250.out
    refine skip_ (w1 := ?_) (by rfl) rfl ?_ ?_
    rotate_left
    · go_simp
      rfl
    refine hK.out _ _ ⟨((cell_far (p := ⟨gb251, _, none⟩) NB249_251.out _).trans (((cell_far (p := ⟨gb251, _, none⟩) NB249_251.out _).trans (hHeld.1)))), ((cell_far (p := ⟨gb251, _, none⟩) NB249_251.out _).trans (((cell_far (p := ⟨gb251, _, none⟩) NB249_251.out _).trans (hHeld.2.1)))), ((cell_far (p := ⟨gb251, _, none⟩) NB250_251.out _).trans (((cell_far (p := ⟨gb251, _, none⟩) NB250_251.out _).trans (hHeld.2.2.1)))), ((cell_far (p := ⟨gb251, _, none⟩) NB250_251.out _).trans (((cell_far (p := ⟨gb251, _, none⟩) NB250_251.out _).trans (hHeld.2.2.2))))⟩ (fun hHeld => ?_)
    clear hK K
    refine done_ (done_of HT_.out (by kernel_rfl)) ?_
    try go_wp2
    refine bodyPost_ret (results_cell_row rfl _ _ gb251 37 #[.bool t258, .slice Ao21 t259.length co21] (0, 0) _ rfl (by (with_reducible repeat (first | refine z06q ?_ _ | refine z07q ?_ | refine z05q ?_ _)); refine blk_put (cs := #[.bool t258, .slice none 0 0]) ?_ 1 _ rfl; (with_reducible repeat (first | refine z06q ?_ _ | refine z07q ?_ | refine z05q ?_ _)); refine blk_put (cs := #[.bool false, .slice none 0 0]) ?_ 0 _ rfl; (with_reducible repeat (first | refine z06q ?_ _ | refine z07q ?_ | refine z05q ?_ _)); exact BK251.out) Try.underlying37 rfl (by kernel_rfl)) rfl ?_
    exact ⟨_, by first | rfl | (simp [z14q, z13q] <;> rfl) | (simp [*, z14q, z13q] <;> rfl), by (with_reducible repeat (first | apply Kd.R_alloc | apply Kd.R_drewN | apply Kd.R_drew)); exact Kd.R_mono (Kd.R_far (p := ⟨gb251, 1, none⟩) (Kd.R_far (p := ⟨gb251, 0, none⟩) (Kd.R_types HO261.out BK251.out (by decide)) (fun _ hk => hk.2) (.bool t258)) (fun _ hk => hk.2) (.slice Ao21 t259.length co21)) (fun _ hk => trivial), by repeat (first | (with_reducible first | exact HB.out | apply z02q | apply z00q | apply z01q | refine z03q ?_ GE249.out | refine z03q ?_ GE250.out | refine z03q ?_ GE251.out) | exact HB.out)⟩
  · rw [if_neg c5] at H
    have c5b0 : ((decide (t252 < 0)) == (decide (t253 < 0))) = false := by simpa using c5
    (try (have c5b1 : decide ((decide (t252 < 0)) = (decide (t253 < 0))) = false := by simpa using c5))
    (try (have c5b2 : ((decide (t252 < 0)) == (decide (t253 < 0))) = false := by simpa using c5))
    (try (have c5b3 : ¬ ((decide (t252 < 0)) = (decide (t253 < 0))) := by simpa using c5))
    clear c5
    replace H := Option.bind_eq_some_iff.mp H
    obtain ⟨⟨t262, t263⟩, A230, H⟩ := H
    replace H : (if t263 = true then ((whole_Sign.f k a0_0 l0_1).bind fun t266 => ((whole_Make.f k (decide (t266 < 0)) t262).bind fun bt267 => (some (bt267.1, bt267.2)))) else ((nat_Sub.f k l1_1 l0_1).bind fun bt271 => ((whole_Sign.f k a1_0 l1_1).bind fun t275 => ((whole_Make.f k (decide (t275 < 0)) bt271.1).bind fun bt276 => (some (bt276.1, bt276.2)))))) = some (r1, r2) := H
    have A23 := Aside0.mk A230
    clear A230
    by_cases c24 : t263 = true
    · subst c24
      have H1 : ((whole_Sign.f k a0_0 l0_1).bind fun t266 => ((whole_Make.f k (decide (t266 < 0)) t262).bind fun bt267 => (some (bt267.1, bt267.2)))) = some (r1, r2) := by rw [if_pos rfl] at H; exact H
      clear H
      have H := H1
      clear H1
      replace H := Option.bind_eq_some_iff.mp H
      obtain ⟨t266, A250, H⟩ := H
      replace H : ((whole_Make.f k (decide (t266 < 0)) t262).bind fun bt267 => (some (bt267.1, bt267.2))) = some (r1, r2) := H
      have A25 := Aside0.mk A250
      clear A250
      replace H := Option.bind_eq_some_iff.mp H
      obtain ⟨⟨t267, t268⟩, A260, H⟩ := H
      replace H : (some (t267, t268)) = some (r1, r2) := H
      have A26 := Aside0.mk A260
      clear A260
      simp only [Option.some.injEq, Prod.mk.injEq] at H
      obtain ⟨rfl, rfl⟩ := H
      go_enter Try.func41, Try.ntmps41
      try go_wp2_with (first | ((with_reducible refine z18q (N := 2) rfl ?_); refine z17q ?hg (N := 2) ?hd (cs := #[.bool a0_0, .slice A0_1 l0_1.length c0_1]) (t := 37) ?hr ?_; (case hd => rfl); (case hg => rfl); (case hr => first | (go_simp; done) | (go_simp; rfl)); intro gb249 hg w27 hbox hb; have n0_ := Aside0.mk (z11q (by repeat (first | (with_reducible first | exact HB.out | apply z02q | apply z00q | apply z01q) | exact HB.out)) hb); have n1_ := Aside0.mk (hbox); have n2_ := Aside0.mk ((by rw [hg]; exact (z10q (by repeat (first | (with_reducible first | exact HB.out | apply z02q | apply z00q | apply z01q) | exact HB.out))) : w.heap.size ≤ gb249)); have n3_ := Aside0.mk ((by rw [hg]; exact (z10q (by repeat (first | (with_reducible first | exact HB.out | apply z02q | apply z00q | apply z01q) | exact HB.out))) : w.heap.size ≤ gb249)); clear HB; have HB := n0_; have BK249 := n1_; have GW249 := n2_; have GE249 := n3_; clear n0_ n1_ n2_ n3_; clear hb hbox hg) | ((with_reducible refine z18q (N := 3) rfl ?_); refine z17q ?hg (N := 3) ?hd (cs := #[.bool a1_0, .slice A1_1 l1_1.length c1_1]) (t := 37) ?hr ?_; (case hd => rfl); (case hg => rfl); (case hr => first | (go_simp; done) | (go_simp; rfl)); intro gb250 hg w28 hbox hb; have n0_ := Aside0.mk (z09q (g := gb249) (o := .cells #[.bool a0_0, .slice A0_1 l0_1.length c0_1] 37 (0, 0)) (by (with_reducible repeat (first | refine z06q ?_ _ | refine z07q ?_ | refine z05q ?_ _)); exact BK249.out) hb); have n1_ := Aside0.mk (z11q (by repeat (first | (with_reducible first | exact HB.out | apply z02q | apply z00q | apply z01q | refine z03q ?_ GE249.out) | exact HB.out)) hb); have n2_ := Aside0.mk (hbox); have n3_ := Aside0.mk ((by rw [hg]; exact (z10q (by repeat (first | (with_reducible first | exact HB.out | apply z02q | apply z00q | apply z01q | refine z03q ?_ GE249.out) | exact HB.out))) : w.heap.size ≤ gb250)); have n4_ := Aside0.mk ((by rw [hg]; exact (z10q (by repeat (first | (with_reducible first | exact HB.out | apply z02q | apply z00q | apply z01q | refine z03q ?_ GE249.out) | exact HB.out))) : w.heap.size ≤ gb250)); have n5_ := Aside0.mk ((by rw [hg]; exact Nat.ne_of_lt (blk_lt (g := gb249) (o := .cells #[.bool a0_0, .slice A0_1 l0_1.length c0_1] 37 (0, 0)) (by (with_reducible repeat (first | refine z06q ?_ _ | refine z07q ?_ | refine z05q ?_ _)); exact BK249.out)) : gb249 ≠ gb250)); have n6_ := Aside0.mk ((by rw [hg]; exact Nat.ne_of_gt (blk_lt (g := gb249) (o := .cells #[.bool a0_0, .slice A0_1 l0_1.length c0_1] 37 (0, 0)) (by (with_reducible repeat (first | refine z06q ?_ _ | refine z07q ?_ | refine z05q ?_ _)); exact BK249.out)) : gb250 ≠ gb249)); clear BK249; clear HB; have BK249 := n0_; have HB := n1_; have BK250 := n2_; have GW250 := n3_; have GE250 := n4_; have NB249_250 := n5_; have NB250_249 := n6_; clear n0_ n1_ n2_ n3_ n4_ n5_ n6_; clear hb hbox hg) | ((with_reducible refine z18q (N := 4) rfl ?_); refine z17q ?hg (N := 4) ?hd (cs := #[.bool false, .slice none 0 0]) (t := 37) ?hr ?_; (case hd => rfl); (case hg => rfl); (case hr => first | (go_simp; done) | (go_simp; rfl)); intro gb251 hg w29 hbox hb; have n0_ := Aside0.mk (z09q (g := gb249) (o := .cells #[.bool a0_0, .slice A0_1 l0_1.length c0_1] 37 (0, 0)) (by (with_reducible repeat (first | refine z06q ?_ _ | refine z07q ?_ | refine z05q ?_ _)); exact BK249.out) hb); have n1_ := Aside0.mk (z09q (g := gb250) (o := .cells #[.bool a1_0, .slice A1_1 l1_1.length c1_1] 37 (0, 0)) (by (with_reducible repeat (first | refine z06q ?_ _ | refine z07q ?_ | refine z05q ?_ _)); exact BK250.out) hb); have n2_ := Aside0.mk (z11q (by repeat (first | (with_reducible first | exact HB.out | apply z02q | apply z00q | apply z01q | refine z03q ?_ GE249.out | refine z03q ?_ GE250.out) | exact HB.out)) hb); have n3_ := Aside0.mk (hbox); have n4_ := Aside0.mk ((by rw [hg]; exact (z10q (by repeat (first | (with_reducible first | exact HB.out | apply z02q | apply z00q | apply z01q | refine z03q ?_ GE249.out | refine z03q ?_ GE250.out) | exact HB.out))) : w.heap.size ≤ gb251)); have n5_ := Aside0.mk ((by rw [hg]; exact (z10q (by repeat (first | (with_reducible first | exact HB.out | apply z02q | apply z00q | apply z01q | refine z03q ?_ GE249.out | refine z03q ?_ GE250.out) | exact HB.out))) : w.heap.size ≤ gb251)); have n6_ := Aside0.mk ((by rw [hg]; exact Nat.ne_of_lt (blk_lt (g := gb249) (o := .cells #[.bool a0_0, .slice A0_1 l0_1.length c0_1] 37 (0, 0)) (by (with_reducible repeat (first | refine z06q ?_ _ | refine z07q ?_ | refine z05q ?_ _)); exact BK249.out)) : gb249 ≠ gb251)); have n7_ := Aside0.mk ((by rw [hg]; exact Nat.ne_of_gt (blk_lt (g := gb249) (o := .cells #[.bool a0_0, .slice A0_1 l0_1.length c0_1] 37 (0, 0)) (by (with_reducible repeat (first | refine z06q ?_ _ | refine z07q ?_ | refine z05q ?_ _)); exact BK249.out)) : gb251 ≠ gb249)); have n8_ := Aside0.mk ((by rw [hg]; exact Nat.ne_of_lt (blk_lt (g := gb250) (o := .cells #[.bool a1_0, .slice A1_1 l1_1.length c1_1] 37 (0, 0)) (by (with_reducible repeat (first | refine z06q ?_ _ | refine z07q ?_ | refine z05q ?_ _)); exact BK250.out)) : gb250 ≠ gb251)); have n9_ := Aside0.mk ((by rw [hg]; exact Nat.ne_of_gt (blk_lt (g := gb250) (o := .cells #[.bool a1_0, .slice A1_1 l1_1.length c1_1] 37 (0, 0)) (by (with_reducible repeat (first | refine z06q ?_ _ | refine z07q ?_ | refine z05q ?_ _)); exact BK250.out)) : gb251 ≠ gb250)); clear BK249; clear BK250; clear HB; have BK249 := n0_; have BK250 := n1_; have HB := n2_; have BK251 := n3_; have GW251 := n4_; have GE251 := n5_; have NB249_251 := n6_; have NB251_249 := n7_; have NB250_251 := n8_; have NB251_250 := n9_; clear n0_ n1_ n2_ n3_ n4_ n5_ n6_ n7_ n8_ n9_; clear hb hbox hg))
      have n0_ := Aside0.mk (z07q BK249.out)
      have n1_ := Aside0.mk (z07q BK250.out)
      have n2_ := Aside0.mk (z07q BK251.out)
      have n3_ := Aside0.mk (z01q HB.out)
      clear BK249
      clear BK250
      clear BK251
      clear HB
      have BK249 := n0_
      have BK250 := n1_
      have BK251 := n2_
      have HB := n3_
      clear n0_ n1_ n2_ n3_
      refine start_ (n := 7) (S := fun w' => w'.cell? ⟨gb249, 0, none⟩ = some (.bool a0_0) ∧ w'.cell? ⟨gb249, 1, none⟩ = some (.slice A0_1 l0_1.length c0_1) ∧ w'.cell? ⟨gb250, 0, none⟩ = some (.bool a1_0) ∧ w'.cell? ⟨gb250, 1, none⟩ = some (.slice A1_1 l1_1.length c1_1)) (ds := []) #[false, false, false, false, false, false, false] (by kernel_rfl) rfl rfl ⟨(z04q BK249.out 0).trans rfl, (z04q BK249.out 1).trans rfl, (z04q BK250.out 0).trans rfl, (z04q BK250.out 1).trans rfl⟩ (fun hHeld => ?_)
      generalize w29.drew = w30 at BK249 BK250 BK251 HB hHeld ⊢
      refine take_ (i := 0) (N := some 9) (v := ?_) (a' := ?_) #[true, false, false, false, false, false, false] rfl rfl (by kernel_rfl) (fun _ _ _ h => h) (Or.inl ⟨by rfl, ?_⟩) hHeld ?_ ?_
      rotate_left
      · rintro w' ⟨s0, s1, s2, s3⟩
        go_simp
        with_reducible rfl
      rotate_left
      · simp only [Act.put, List.setIfInBounds_toArray, List.set_cons_zero, List.set_cons_succ, i64_w, i32_w]
        rfl
      refine take_ (i := 3) (N := some 12) (v := ?_) (a' := ?_) #[true, false, false, true, false, false, false] rfl rfl (by kernel_rfl) (fun _ _ _ h => h) (Or.inl ⟨by rfl, ?_⟩) hHeld ?_ ?_
      rotate_left
      · rintro w' ⟨s0, s1, s2, s3⟩
        go_simp
        with_reducible rfl
      rotate_left
      · simp only [Act.put, List.setIfInBounds_toArray, List.set_cons_zero, List.set_cons_succ, i64_w, i32_w]
        rfl
      refine one_ (i := 1) (N := some 10) #[true, true, false, true, false, false, false] rfl rfl (by kernel_rfl) (by decide) (fun K hK => ?_)
      refine goes_ Try.func44 (by kernel_rfl) rfl #[.agg #[.bool a0_0, .slice A0_1 l0_1.length c0_1]] (by rfl) rfl rfl (by (try simp only [List.map_toArray, List.map_cons, List.map_nil]); first | done | rfl | (simp only [List.length_drop, List.length_take]; rfl)) ?_
      with_reducible refine (whole_Sign.calls k a0_0 _ _ l0_1 t252 _ ?side1 ?side2 A3.out).mono ?_
      (case side1 => repeat (first | exact (Kd.C_below HR0_1.out HB.out) | (with_reducible refine Kd.C_alloc ?_ _) | (with_reducible refine Kd.C_drewN ?_ _) | (with_reducible refine Kd.C_drew ?_)))
      (case side2 => exact HC0_1.out)
      rintro e w31 ⟨rfl, hb⟩
      refine ⟨_, rfl, ?_⟩
      have n0_ := Aside0.mk (z09q (g := gb249) (o := .cells #[.bool a0_0, .slice A0_1 l0_1.length c0_1] 37 (0, 0)) (by (with_reducible repeat (first | refine z06q ?_ _ | refine z07q ?_ | refine z05q ?_ _)); exact BK249.out) hb)
      have n1_ := Aside0.mk (z09q (g := gb250) (o := .cells #[.bool a1_0, .slice A1_1 l1_1.length c1_1] 37 (0, 0)) (by (with_reducible repeat (first | refine z06q ?_ _ | refine z07q ?_ | refine z05q ?_ _)); exact BK250.out) hb)
      have n2_ := Aside0.mk (z09q (g := gb251) (o := .cells #[.bool false, .slice none 0 0] 37 (0, 0)) (by (with_reducible repeat (first | refine z06q ?_ _ | refine z07q ?_ | refine z05q ?_ _)); exact BK251.out) hb)
      have n3_ := Aside0.mk (z11q (by repeat (first | (with_reducible first | exact HB.out | apply z02q | apply z00q | apply z01q | refine z03q ?_ GE249.out | refine z03q ?_ GE250.out | refine z03q ?_ GE251.out) | exact HB.out)) hb)
      clear BK249
      clear BK250
      clear BK251
      clear HB
      have BK249 := n0_
      have BK250 := n1_
      have BK251 := n2_
      have HB := n3_
      clear n0_ n1_ n2_ n3_
      (try clear hb)
      (try clear hb2)
      (try clear hk)
      (try clear hi)
      refine hK.out _ _ ⟨(z04q BK249.out 0).trans rfl, (z04q BK249.out 1).trans rfl, (z04q BK250.out 0).trans rfl, (z04q BK250.out 1).trans rfl⟩ (fun hHeld => ?_)
      clear hK K
      refine norm_ (a' := ?_) ?_ ?_
      rotate_left
      · show Act.put _ (some 10) _ = _
        simp only [Act.put, List.setIfInBounds_toArray, List.set_cons_zero, List.set_cons_succ, i64_w, i32_w]
        rfl
      refine pure_ (i := 2) (N := some 11) (v := ?_) (a' := ?_) #[true, true, true, true, false, false, false] rfl rfl (by kernel_rfl) (fun _ _ _ h => h) (Or.inl ⟨by rfl, ?_⟩) ?_ ?_
      rotate_left
      · intro w'
        go_simp
        with_reducible rfl
      rotate_left
      · simp only [Act.put, List.setIfInBounds_toArray, List.set_cons_zero, List.set_cons_succ, i64_w, i32_w]
        rfl
      refine one_ (i := 4) (N := some 13) #[true, true, true, true, true, false, false] rfl rfl (by kernel_rfl) (by decide) (fun K hK => ?_)
      refine goes_ Try.func44 (by kernel_rfl) rfl #[.agg #[.bool a1_0, .slice A1_1 l1_1.length c1_1]] (by rfl) rfl rfl (by (try simp only [List.map_toArray, List.map_cons, List.map_nil]); first | done | rfl | (simp only [List.length_drop, List.length_take]; rfl)) ?_
      with_reducible refine (whole_Sign.calls k a1_0 _ _ l1_1 t253 _ ?side1 ?side2 A4.out).mono ?_
      (case side1 => repeat (first | exact (Kd.C_below HR1_1.out HB.out) | (with_reducible refine Kd.C_alloc ?_ _) | (with_reducible refine Kd.C_drewN ?_ _) | (with_reducible refine Kd.C_drew ?_)))
      (case side2 => exact HC1_1.out)
      rintro e w32 ⟨rfl, hb⟩
      refine ⟨_, rfl, ?_⟩
      have n0_ := Aside0.mk (z09q (g := gb249) (o := .cells #[.bool a0_0, .slice A0_1 l0_1.length c0_1] 37 (0, 0)) (by (with_reducible repeat (first | refine z06q ?_ _ | refine z07q ?_ | refine z05q ?_ _)); exact BK249.out) hb)
      have n1_ := Aside0.mk (z09q (g := gb250) (o := .cells #[.bool a1_0, .slice A1_1 l1_1.length c1_1] 37 (0, 0)) (by (with_reducible repeat (first | refine z06q ?_ _ | refine z07q ?_ | refine z05q ?_ _)); exact BK250.out) hb)
      have n2_ := Aside0.mk (z09q (g := gb251) (o := .cells #[.bool false, .slice none 0 0] 37 (0, 0)) (by (with_reducible repeat (first | refine z06q ?_ _ | refine z07q ?_ | refine z05q ?_ _)); exact BK251.out) hb)
      have n3_ := Aside0.mk (z11q (by repeat (first | (with_reducible first | exact HB.out | apply z02q | apply z00q | apply z01q | refine z03q ?_ GE249.out | refine z03q ?_ GE250.out | refine z03q ?_ GE251.out) | exact HB.out)) hb)
      clear BK249
      clear BK250
      clear BK251
      clear HB
      have BK249 := n0_
      have BK250 := n1_
      have BK251 := n2_
      have HB := n3_
      clear n0_ n1_ n2_ n3_
      (try clear hb)
      (try clear hb2)
      (try clear hk)
      (try clear hi)
      refine hK.out _ _ ⟨(z04q BK249.out 0).trans rfl, (z04q BK249.out 1).trans rfl, (z04q BK250.out 0).trans rfl, (z04q BK250.out 1).trans rfl⟩ (fun hHeld => ?_)
      clear hK K
      refine norm_ (a' := ?_) ?_ ?_
      rotate_left
      · show Act.put _ (some 13) _ = _
        simp only [Act.put, List.setIfInBounds_toArray, List.set_cons_zero, List.set_cons_succ, i64_w, i32_w]
        rfl
      refine pure_ (i := 5) (N := some 14) (v := ?_) (a' := ?_) #[true, true, true, true, true, true, false] rfl rfl (by kernel_rfl) (fun _ _ _ h => h) (Or.inl ⟨by rfl, ?_⟩) ?_ ?_
      rotate_left
      · intro w'
        go_simp
        with_reducible rfl
      rotate_left
      · simp only [Act.put, List.setIfInBounds_toArray, List.set_cons_zero, List.set_cons_succ, i64_w, i32_w]
        rfl
      refine pure_ (i := 6) (N := some 15) (v := ?_) (a' := ?_) #[true, true, true, true, true, true, true] rfl rfl (by kernel_rfl) (fun _ _ _ h => h) (Or.inl ⟨by rfl, ?_⟩) ?_ ?_
      rotate_left
      · intro w'
        go_simp
        with_reducible rfl
      rotate_left
      · simp only [Act.put, List.setIfInBounds_toArray, List.set_cons_zero, List.set_cons_succ, i64_w, i32_w]
        rfl
      refine done_ (by kernel_rfl) ?_
      have hnb33 := NB249_250.out
      have hnc33 := NB250_249.out
      have hnb34 := NB249_251.out
      have hnc34 := NB251_249.out
      have hcz35_0 : w32.cell? ⟨gb249, 0, none⟩ = some (.bool a0_0) := (z04q BK249.out 0).trans rfl
      have hcz35_1 : w32.cell? ⟨gb249, 1, none⟩ = some (.slice A0_1 l0_1.length c0_1) := (z04q BK249.out 1).trans rfl
      have hfz35_0 := z08q BK249.out 0
      have hfz35_1 := z08q BK249.out 1
      have hnb36 := NB250_251.out
      have hnc36 := NB251_250.out
      have hcz37_0 : w32.cell? ⟨gb250, 0, none⟩ = some (.bool a1_0) := (z04q BK250.out 0).trans rfl
      have hcz37_1 : w32.cell? ⟨gb250, 1, none⟩ = some (.slice A1_1 l1_1.length c1_1) := (z04q BK250.out 1).trans rfl
      have hfz37_0 := z08q BK250.out 0
      have hfz37_1 := z08q BK250.out 1
      try go_wp2_with (first | ((with_reducible refine z16q (f := 56) rfl ?_); refine goesL_ (some 30) rfl rfl Try.func56 (by kernel_rfl) rfl #[.slice A0_1 l0_1.length c0_1, .slice A1_1 l1_1.length c1_1] rfl (by (try simp only [List.map_toArray, List.map_cons, List.map_nil]); first | done | rfl | (simp only [List.length_drop, List.length_take]; rfl)) ?_; (with_reducible refine (nat_Sub.calls k _ _ l0_1 _ _ l1_1 t262 true _ ?side1 ?side2 ?side3 ?side4 A23.out).mono ?_); (case side1 => repeat (first | exact (Kd.C_below HR0_1.out HB.out) | (with_reducible refine Kd.C_alloc ?_ _) | (with_reducible refine Kd.C_drewN ?_ _) | (with_reducible refine Kd.C_drew ?_))); (case side2 => exact HC0_1.out); (case side3 => repeat (first | exact (Kd.C_below HR1_1.out HB.out) | (with_reducible refine Kd.C_alloc ?_ _) | (with_reducible refine Kd.C_drewN ?_ _) | (with_reducible refine Kd.C_drew ?_))); (case side4 => exact HC1_1.out); rintro e w38 ⟨v264, rfl, ho0, hb⟩; refine ⟨_, rfl, ?_⟩; have n0_ := Aside0.mk (Kd.R_lower ho0 (z10q (by repeat (first | (with_reducible first | exact HB.out | apply z02q | apply z00q | apply z01q | refine z03q ?_ GE249.out | refine z03q ?_ GE250.out | refine z03q ?_ GE251.out) | exact HB.out)))); have n1_ := Aside0.mk (z09q (g := gb249) (o := .cells #[.bool a0_0, .slice A0_1 l0_1.length c0_1] 37 (0, 0)) (by (with_reducible repeat (first | refine z06q ?_ _ | refine z07q ?_ | refine z05q ?_ _)); exact BK249.out) hb); have n2_ := Aside0.mk (z09q (g := gb250) (o := .cells #[.bool a1_0, .slice A1_1 l1_1.length c1_1] 37 (0, 0)) (by (with_reducible repeat (first | refine z06q ?_ _ | refine z07q ?_ | refine z05q ?_ _)); exact BK250.out) hb); have n3_ := Aside0.mk (z09q (g := gb251) (o := .cells #[.bool false, .slice none 0 0] 37 (0, 0)) (by (with_reducible repeat (first | refine z06q ?_ _ | refine z07q ?_ | refine z05q ?_ _)); exact BK251.out) hb); have n4_ := Aside0.mk (z11q (by repeat (first | (with_reducible first | exact HB.out | apply z02q | apply z00q | apply z01q | refine z03q ?_ GE249.out | refine z03q ?_ GE250.out | refine z03q ?_ GE251.out) | exact HB.out)) hb); clear BK249; clear BK250; clear BK251; clear HB; have HO265 := n0_; have BK249 := n1_; have BK250 := n2_; have BK251 := n3_; have HB := n4_; clear n0_ n1_ n2_ n3_ n4_; (try clear hb); (try clear hb2); (try clear hk); (try clear hi); (try clear ho0); have hcz39_0 : w38.cell? ⟨gb249, 0, none⟩ = some (.bool a0_0) := (z04q BK249.out 0).trans rfl; have hcz39_1 : w38.cell? ⟨gb249, 1, none⟩ = some (.slice A0_1 l0_1.length c0_1) := (z04q BK249.out 1).trans rfl; have hfz39_0 := z08q BK249.out 0; have hfz39_1 := z08q BK249.out 1) | ((with_reducible refine z16q (f := 44) rfl ?_); refine goesL_ (some 35) rfl rfl Try.func44 (by kernel_rfl) rfl #[.agg #[.bool a0_0, .slice A0_1 l0_1.length c0_1]] rfl (by (try simp only [List.map_toArray, List.map_cons, List.map_nil]); first | done | rfl | (simp only [List.length_drop, List.length_take]; rfl)) ?_; (with_reducible refine (whole_Sign.calls k a0_0 _ _ l0_1 t266 _ ?side1 ?side2 A25.out).mono ?_); (case side1 => repeat (first | exact (Kd.C_below HR0_1.out HB.out) | (with_reducible refine Kd.C_alloc ?_ _) | (with_reducible refine Kd.C_drewN ?_ _) | (with_reducible refine Kd.C_drew ?_))); (case side2 => exact HC0_1.out); rintro e w40 ⟨rfl, hb⟩; refine ⟨_, rfl, ?_⟩; have n0_ := Aside0.mk (Kd.R_below (by (with_reducible repeat (first | apply Kd.R_alloc | apply Kd.R_drewN | apply Kd.R_drew)); exact HO265.out) hb); have n1_ := Aside0.mk (z09q (g := gb249) (o := .cells #[.bool a0_0, .slice A0_1 l0_1.length c0_1] 37 (0, 0)) (by (with_reducible repeat (first | refine z06q ?_ _ | refine z07q ?_ | refine z05q ?_ _)); exact BK249.out) hb); have n2_ := Aside0.mk (z09q (g := gb250) (o := .cells #[.bool a1_0, .slice A1_1 l1_1.length c1_1] 37 (0, 0)) (by (with_reducible repeat (first | refine z06q ?_ _ | refine z07q ?_ | refine z05q ?_ _)); exact BK250.out) hb); have n3_ := Aside0.mk (z09q (g := gb251) (o := .cells #[.bool false, .slice none 0 0] 37 (0, 0)) (by (with_reducible repeat (first | refine z06q ?_ _ | refine z07q ?_ | refine z05q ?_ _)); exact BK251.out) hb); have n4_ := Aside0.mk (z11q (by repeat (first | (with_reducible first | exact HB.out | apply z02q | apply z00q | apply z01q | refine z03q ?_ GE249.out | refine z03q ?_ GE250.out | refine z03q ?_ GE251.out) | exact HB.out)) hb); clear HO265; clear BK249; clear BK250; clear BK251; clear HB; have HO265 := n0_; have BK249 := n1_; have BK250 := n2_; have BK251 := n3_; have HB := n4_; clear n0_ n1_ n2_ n3_ n4_; (try clear hb); (try clear hb2); (try clear hk); (try clear hi); obtain ⟨Ao41, co41, eo41⟩ := Kd.R_slice HO265.out; subst eo41) | ((with_reducible refine z16q (f := 47) rfl ?_); refine goesL_ (some 38) rfl rfl Try.func47 (by kernel_rfl) rfl #[.bool (decide (t266 < 0)), .slice Ao41 t262.length co41] rfl (by (try simp only [List.map_toArray, List.map_cons, List.map_nil]); first | done | rfl | (simp only [List.length_drop, List.length_take]; rfl)) ?_; (with_reducible refine (whole_Make.calls k (decide (t266 < 0)) _ _ t262 t267 t268 _ ?side1 ?side2 A26.out).mono ?_); (case side1 => repeat (first | exact (Kd.R_reads' HO265.out).2.2 | (with_reducible refine Kd.C_alloc ?_ _) | (with_reducible refine Kd.C_drewN ?_ _) | (with_reducible refine Kd.C_drew ?_))); (case side2 => exact (Kd.R_reads' HO265.out).2.1); rintro e w42 ⟨v269, rfl, ho0, hb⟩; refine ⟨_, rfl, ?_⟩; have n0_ := Aside0.mk (Kd.R_elder' (by (with_reducible repeat (first | apply Kd.R_alloc | apply Kd.R_drewN | apply Kd.R_drew)); exact HO265.out) (Kd.R_base ho0) hb); have n1_ := Aside0.mk (Kd.R_lower (Kd.R_new' ho0 (Kd.R_lt (by (with_reducible repeat (first | apply Kd.R_alloc | apply Kd.R_drewN | apply Kd.R_drew)); exact HO265.out))) (z10q (by repeat (first | (with_reducible first | exact HB.out | apply z02q | apply z00q | apply z01q | refine z03q ?_ GE249.out | refine z03q ?_ GE250.out | refine z03q ?_ GE251.out) | exact HB.out)))); have n2_ := Aside0.mk (z09q (g := gb249) (o := .cells #[.bool a0_0, .slice A0_1 l0_1.length c0_1] 37 (0, 0)) (by (with_reducible repeat (first | refine z06q ?_ _ | refine z07q ?_ | refine z05q ?_ _)); exact BK249.out) hb); have n3_ := Aside0.mk (z09q (g := gb250) (o := .cells #[.bool a1_0, .slice A1_1 l1_1.length c1_1] 37 (0, 0)) (by (with_reducible repeat (first | refine z06q ?_ _ | refine z07q ?_ | refine z05q ?_ _)); exact BK250.out) hb); have n4_ := Aside0.mk (z09q (g := gb251) (o := .cells #[.bool false, .slice none 0 0] 37 (0, 0)) (by (with_reducible repeat (first | refine z06q ?_ _ | refine z07q ?_ | refine z05q ?_ _)); exact BK251.out) hb); have n5_ := Aside0.mk (z11q (by repeat (first | (with_reducible first | exact HB.out | apply z02q | apply z00q | apply z01q | refine z03q ?_ GE249.out | refine z03q ?_ GE250.out | refine z03q ?_ GE251.out) | exact HB.out)) hb); clear HO265; clear BK249; clear BK250; clear BK251; clear HB; have HO265 := n0_; have HO270 := n1_; have BK249 := n2_; have BK250 := n3_; have BK251 := n4_; have HB := n5_; clear n0_ n1_ n2_ n3_ n4_ n5_; (try clear hb); (try clear hb2); (try clear hk); (try clear hi); (try clear ho0); have hcz43_0 : w42.cell? ⟨gb251, 0, none⟩ = some (.bool false) := (z04q BK251.out 0).trans rfl; have hcz43_1 : w42.cell? ⟨gb251, 1, none⟩ = some (.slice none 0 0) := (z04q BK251.out 1).trans rfl; have hfz43_0 := z08q BK251.out 0; have hfz43_1 := z08q BK251.out 1; obtain ⟨Ao44, co44, eo44⟩ := Kd.R_slice HO270.out; subst eo44))
      refine bodyPost_ret (results_cell_row rfl _ _ gb251 37 #[.bool t267, .slice Ao44 t268.length co44] (0, 0) _ rfl (by (with_reducible repeat (first | refine z06q ?_ _ | refine z07q ?_ | refine z05q ?_ _)); refine blk_put (cs := #[.bool t267, .slice none 0 0]) ?_ 1 _ rfl; (with_reducible repeat (first | refine z06q ?_ _ | refine z07q ?_ | refine z05q ?_ _)); refine blk_put (cs := #[.bool false, .slice none 0 0]) ?_ 0 _ rfl; (with_reducible repeat (first | refine z06q ?_ _ | refine z07q ?_ | refine z05q ?_ _)); exact BK251.out) Try.underlying37 rfl (by kernel_rfl)) rfl ?_
      exact ⟨_, by first | rfl | (simp [z14q, z13q] <;> rfl) | (simp [*, z14q, z13q] <;> rfl), by (with_reducible repeat (first | apply Kd.R_alloc | apply Kd.R_drewN | apply Kd.R_drew)); exact Kd.R_mono (Kd.R_far (p := ⟨gb251, 1, none⟩) (Kd.R_far (p := ⟨gb251, 0, none⟩) (Kd.R_types HO270.out BK251.out (by decide)) (fun _ hk => hk.2) (.bool t267)) (fun _ hk => hk.2) (.slice Ao44 t268.length co44)) (fun _ hk => trivial), by repeat (first | (with_reducible first | exact HB.out | apply z02q | apply z00q | apply z01q | refine z03q ?_ GE249.out | refine z03q ?_ GE250.out | refine z03q ?_ GE251.out) | exact HB.out)⟩
    · replace c24 := Bool.eq_false_iff.mpr c24
      subst c24
      have H1 : ((nat_Sub.f k l1_1 l0_1).bind fun bt271 => ((whole_Sign.f k a1_0 l1_1).bind fun t275 => ((whole_Make.f k (decide (t275 < 0)) bt271.1).bind fun bt276 => (some (bt276.1, bt276.2))))) = some (r1, r2) := by rw [if_neg (show ¬ (false = true) by decide)] at H; exact H
      clear H
      have H := H1
      clear H1
      replace H := Option.bind_eq_some_iff.mp H
      obtain ⟨⟨t271, t272⟩, A450, H⟩ := H
      replace H : ((whole_Sign.f k a1_0 l1_1).bind fun t275 => ((whole_Make.f k (decide (t275 < 0)) t271).bind fun bt276 => (some (bt276.1, bt276.2)))) = some (r1, r2) := H
      have A45 := Aside0.mk A450
      clear A450
      replace H := Option.bind_eq_some_iff.mp H
      obtain ⟨t275, A460, H⟩ := H
      replace H : ((whole_Make.f k (decide (t275 < 0)) t271).bind fun bt276 => (some (bt276.1, bt276.2))) = some (r1, r2) := H
      have A46 := Aside0.mk A460
      clear A460
      replace H := Option.bind_eq_some_iff.mp H
      obtain ⟨⟨t276, t277⟩, A470, H⟩ := H
      replace H : (some (t276, t277)) = some (r1, r2) := H
      have A47 := Aside0.mk A470
      clear A470
      simp only [Option.some.injEq, Prod.mk.injEq] at H
      obtain ⟨rfl, rfl⟩ := H
      go_enter Try.func41, Try.ntmps41
      try go_wp2_with (first | ((with_reducible refine z18q (N := 2) rfl ?_); refine z17q ?hg (N := 2) ?hd (cs := #[.bool a0_0, .slice A0_1 l0_1.length c0_1]) (t := 37) ?hr ?_; (case hd => rfl); (case hg => rfl); (case hr => first | (go_simp; done) | (go_simp; rfl)); intro gb249 hg w48 hbox hb; have n0_ := Aside0.mk (z11q (by repeat (first | (with_reducible first | exact HB.out | apply z02q | apply z00q | apply z01q) | exact HB.out)) hb); have n1_ := Aside0.mk (hbox); have n2_ := Aside0.mk ((by rw [hg]; exact (z10q (by repeat (first | (with_reducible first | exact HB.out | apply z02q | apply z00q | apply z01q) | exact HB.out))) : w.heap.size ≤ gb249)); have n3_ := Aside0.mk ((by rw [hg]; exact (z10q (by repeat (first | (with_reducible first | exact HB.out | apply z02q | apply z00q | apply z01q) | exact HB.out))) : w.heap.size ≤ gb249)); clear HB; have HB := n0_; have BK249 := n1_; have GW249 := n2_; have GE249 := n3_; clear n0_ n1_ n2_ n3_; clear hb hbox hg) | ((with_reducible refine z18q (N := 3) rfl ?_); refine z17q ?hg (N := 3) ?hd (cs := #[.bool a1_0, .slice A1_1 l1_1.length c1_1]) (t := 37) ?hr ?_; (case hd => rfl); (case hg => rfl); (case hr => first | (go_simp; done) | (go_simp; rfl)); intro gb250 hg w49 hbox hb; have n0_ := Aside0.mk (z09q (g := gb249) (o := .cells #[.bool a0_0, .slice A0_1 l0_1.length c0_1] 37 (0, 0)) (by (with_reducible repeat (first | refine z06q ?_ _ | refine z07q ?_ | refine z05q ?_ _)); exact BK249.out) hb); have n1_ := Aside0.mk (z11q (by repeat (first | (with_reducible first | exact HB.out | apply z02q | apply z00q | apply z01q | refine z03q ?_ GE249.out) | exact HB.out)) hb); have n2_ := Aside0.mk (hbox); have n3_ := Aside0.mk ((by rw [hg]; exact (z10q (by repeat (first | (with_reducible first | exact HB.out | apply z02q | apply z00q | apply z01q | refine z03q ?_ GE249.out) | exact HB.out))) : w.heap.size ≤ gb250)); have n4_ := Aside0.mk ((by rw [hg]; exact (z10q (by repeat (first | (with_reducible first | exact HB.out | apply z02q | apply z00q | apply z01q | refine z03q ?_ GE249.out) | exact HB.out))) : w.heap.size ≤ gb250)); have n5_ := Aside0.mk ((by rw [hg]; exact Nat.ne_of_lt (blk_lt (g := gb249) (o := .cells #[.bool a0_0, .slice A0_1 l0_1.length c0_1] 37 (0, 0)) (by (with_reducible repeat (first | refine z06q ?_ _ | refine z07q ?_ | refine z05q ?_ _)); exact BK249.out)) : gb249 ≠ gb250)); have n6_ := Aside0.mk ((by rw [hg]; exact Nat.ne_of_gt (blk_lt (g := gb249) (o := .cells #[.bool a0_0, .slice A0_1 l0_1.length c0_1] 37 (0, 0)) (by (with_reducible repeat (first | refine z06q ?_ _ | refine z07q ?_ | refine z05q ?_ _)); exact BK249.out)) : gb250 ≠ gb249)); clear BK249; clear HB; have BK249 := n0_; have HB := n1_; have BK250 := n2_; have GW250 := n3_; have GE250 := n4_; have NB249_250 := n5_; have NB250_249 := n6_; clear n0_ n1_ n2_ n3_ n4_ n5_ n6_; clear hb hbox hg) | ((with_reducible refine z18q (N := 4) rfl ?_); refine z17q ?hg (N := 4) ?hd (cs := #[.bool false, .slice none 0 0]) (t := 37) ?hr ?_; (case hd => rfl); (case hg => rfl); (case hr => first | (go_simp; done) | (go_simp; rfl)); intro gb251 hg w50 hbox hb; have n0_ := Aside0.mk (z09q (g := gb249) (o := .cells #[.bool a0_0, .slice A0_1 l0_1.length c0_1] 37 (0, 0)) (by (with_reducible repeat (first | refine z06q ?_ _ | refine z07q ?_ | refine z05q ?_ _)); exact BK249.out) hb); have n1_ := Aside0.mk (z09q (g := gb250) (o := .cells #[.bool a1_0, .slice A1_1 l1_1.length c1_1] 37 (0, 0)) (by (with_reducible repeat (first | refine z06q ?_ _ | refine z07q ?_ | refine z05q ?_ _)); exact BK250.out) hb); have n2_ := Aside0.mk (z11q (by repeat (first | (with_reducible first | exact HB.out | apply z02q | apply z00q | apply z01q | refine z03q ?_ GE249.out | refine z03q ?_ GE250.out) | exact HB.out)) hb); have n3_ := Aside0.mk (hbox); have n4_ := Aside0.mk ((by rw [hg]; exact (z10q (by repeat (first | (with_reducible first | exact HB.out | apply z02q | apply z00q | apply z01q | refine z03q ?_ GE249.out | refine z03q ?_ GE250.out) | exact HB.out))) : w.heap.size ≤ gb251)); have n5_ := Aside0.mk ((by rw [hg]; exact (z10q (by repeat (first | (with_reducible first | exact HB.out | apply z02q | apply z00q | apply z01q | refine z03q ?_ GE249.out | refine z03q ?_ GE250.out) | exact HB.out))) : w.heap.size ≤ gb251)); have n6_ := Aside0.mk ((by rw [hg]; exact Nat.ne_of_lt (blk_lt (g := gb249) (o := .cells #[.bool a0_0, .slice A0_1 l0_1.length c0_1] 37 (0, 0)) (by (with_reducible repeat (first | refine z06q ?_ _ | refine z07q ?_ | refine z05q ?_ _)); exact BK249.out)) : gb249 ≠ gb251)); have n7_ := Aside0.mk ((by rw [hg]; exact Nat.ne_of_gt (blk_lt (g := gb249) (o := .cells #[.bool a0_0, .slice A0_1 l0_1.length c0_1] 37 (0, 0)) (by (with_reducible repeat (first | refine z06q ?_ _ | refine z07q ?_ | refine z05q ?_ _)); exact BK249.out)) : gb251 ≠ gb249)); have n8_ := Aside0.mk ((by rw [hg]; exact Nat.ne_of_lt (blk_lt (g := gb250) (o := .cells #[.bool a1_0, .slice A1_1 l1_1.length c1_1] 37 (0, 0)) (by (with_reducible repeat (first | refine z06q ?_ _ | refine z07q ?_ | refine z05q ?_ _)); exact BK250.out)) : gb250 ≠ gb251)); have n9_ := Aside0.mk ((by rw [hg]; exact Nat.ne_of_gt (blk_lt (g := gb250) (o := .cells #[.bool a1_0, .slice A1_1 l1_1.length c1_1] 37 (0, 0)) (by (with_reducible repeat (first | refine z06q ?_ _ | refine z07q ?_ | refine z05q ?_ _)); exact BK250.out)) : gb251 ≠ gb250)); clear BK249; clear BK250; clear HB; have BK249 := n0_; have BK250 := n1_; have HB := n2_; have BK251 := n3_; have GW251 := n4_; have GE251 := n5_; have NB249_251 := n6_; have NB251_249 := n7_; have NB250_251 := n8_; have NB251_250 := n9_; clear n0_ n1_ n2_ n3_ n4_ n5_ n6_ n7_ n8_ n9_; clear hb hbox hg))
      have n0_ := Aside0.mk (z07q BK249.out)
      have n1_ := Aside0.mk (z07q BK250.out)
      have n2_ := Aside0.mk (z07q BK251.out)
      have n3_ := Aside0.mk (z01q HB.out)
      clear BK249
      clear BK250
      clear BK251
      clear HB
      have BK249 := n0_
      have BK250 := n1_
      have BK251 := n2_
      have HB := n3_
      clear n0_ n1_ n2_ n3_
      refine start_ (n := 7) (S := fun w' => w'.cell? ⟨gb249, 0, none⟩ = some (.bool a0_0) ∧ w'.cell? ⟨gb249, 1, none⟩ = some (.slice A0_1 l0_1.length c0_1) ∧ w'.cell? ⟨gb250, 0, none⟩ = some (.bool a1_0) ∧ w'.cell? ⟨gb250, 1, none⟩ = some (.slice A1_1 l1_1.length c1_1)) (ds := []) #[false, false, false, false, false, false, false] (by kernel_rfl) rfl rfl ⟨(z04q BK249.out 0).trans rfl, (z04q BK249.out 1).trans rfl, (z04q BK250.out 0).trans rfl, (z04q BK250.out 1).trans rfl⟩ (fun hHeld => ?_)
      generalize w50.drew = w51 at BK249 BK250 BK251 HB hHeld ⊢
      refine take_ (i := 0) (N := some 9) (v := ?_) (a' := ?_) #[true, false, false, false, false, false, false] rfl rfl (by kernel_rfl) (fun _ _ _ h => h) (Or.inl ⟨by rfl, ?_⟩) hHeld ?_ ?_
      rotate_left
      · rintro w' ⟨s0, s1, s2, s3⟩
        go_simp
        with_reducible rfl
      rotate_left
      · simp only [Act.put, List.setIfInBounds_toArray, List.set_cons_zero, List.set_cons_succ, i64_w, i32_w]
        rfl
      refine take_ (i := 3) (N := some 12) (v := ?_) (a' := ?_) #[true, false, false, true, false, false, false] rfl rfl (by kernel_rfl) (fun _ _ _ h => h) (Or.inl ⟨by rfl, ?_⟩) hHeld ?_ ?_
      rotate_left
      · rintro w' ⟨s0, s1, s2, s3⟩
        go_simp
        with_reducible rfl
      rotate_left
      · simp only [Act.put, List.setIfInBounds_toArray, List.set_cons_zero, List.set_cons_succ, i64_w, i32_w]
        rfl
      refine one_ (i := 1) (N := some 10) #[true, true, false, true, false, false, false] rfl rfl (by kernel_rfl) (by decide) (fun K hK => ?_)
      refine goes_ Try.func44 (by kernel_rfl) rfl #[.agg #[.bool a0_0, .slice A0_1 l0_1.length c0_1]] (by rfl) rfl rfl (by (try simp only [List.map_toArray, List.map_cons, List.map_nil]); first | done | rfl | (simp only [List.length_drop, List.length_take]; rfl)) ?_
      with_reducible refine (whole_Sign.calls k a0_0 _ _ l0_1 t252 _ ?side1 ?side2 A3.out).mono ?_
      (case side1 => repeat (first | exact (Kd.C_below HR0_1.out HB.out) | (with_reducible refine Kd.C_alloc ?_ _) | (with_reducible refine Kd.C_drewN ?_ _) | (with_reducible refine Kd.C_drew ?_)))
      (case side2 => exact HC0_1.out)
      rintro e w52 ⟨rfl, hb⟩
      refine ⟨_, rfl, ?_⟩
      have n0_ := Aside0.mk (z09q (g := gb249) (o := .cells #[.bool a0_0, .slice A0_1 l0_1.length c0_1] 37 (0, 0)) (by (with_reducible repeat (first | refine z06q ?_ _ | refine z07q ?_ | refine z05q ?_ _)); exact BK249.out) hb)
      have n1_ := Aside0.mk (z09q (g := gb250) (o := .cells #[.bool a1_0, .slice A1_1 l1_1.length c1_1] 37 (0, 0)) (by (with_reducible repeat (first | refine z06q ?_ _ | refine z07q ?_ | refine z05q ?_ _)); exact BK250.out) hb)
      have n2_ := Aside0.mk (z09q (g := gb251) (o := .cells #[.bool false, .slice none 0 0] 37 (0, 0)) (by (with_reducible repeat (first | refine z06q ?_ _ | refine z07q ?_ | refine z05q ?_ _)); exact BK251.out) hb)
      have n3_ := Aside0.mk (z11q (by repeat (first | (with_reducible first | exact HB.out | apply z02q | apply z00q | apply z01q | refine z03q ?_ GE249.out | refine z03q ?_ GE250.out | refine z03q ?_ GE251.out) | exact HB.out)) hb)
      clear BK249
      clear BK250
      clear BK251
      clear HB
      have BK249 := n0_
      have BK250 := n1_
      have BK251 := n2_
      have HB := n3_
      clear n0_ n1_ n2_ n3_
      (try clear hb)
      (try clear hb2)
      (try clear hk)
      (try clear hi)
      refine hK.out _ _ ⟨(z04q BK249.out 0).trans rfl, (z04q BK249.out 1).trans rfl, (z04q BK250.out 0).trans rfl, (z04q BK250.out 1).trans rfl⟩ (fun hHeld => ?_)
      clear hK K
      refine norm_ (a' := ?_) ?_ ?_
      rotate_left
      · show Act.put _ (some 10) _ = _
        simp only [Act.put, List.setIfInBounds_toArray, List.set_cons_zero, List.set_cons_succ, i64_w, i32_w]
        rfl
      refine pure_ (i := 2) (N := some 11) (v := ?_) (a' := ?_) #[true, true, true, true, false, false, false] rfl rfl (by kernel_rfl) (fun _ _ _ h => h) (Or.inl ⟨by rfl, ?_⟩) ?_ ?_
      rotate_left
      · intro w'
        go_simp
        with_reducible rfl
      rotate_left
      · simp only [Act.put, List.setIfInBounds_toArray, List.set_cons_zero, List.set_cons_succ, i64_w, i32_w]
        rfl
      refine one_ (i := 4) (N := some 13) #[true, true, true, true, true, false, false] rfl rfl (by kernel_rfl) (by decide) (fun K hK => ?_)
      refine goes_ Try.func44 (by kernel_rfl) rfl #[.agg #[.bool a1_0, .slice A1_1 l1_1.length c1_1]] (by rfl) rfl rfl (by (try simp only [List.map_toArray, List.map_cons, List.map_nil]); first | done | rfl | (simp only [List.length_drop, List.length_take]; rfl)) ?_
      with_reducible refine (whole_Sign.calls k a1_0 _ _ l1_1 t253 _ ?side1 ?side2 A4.out).mono ?_
      (case side1 => repeat (first | exact (Kd.C_below HR1_1.out HB.out) | (with_reducible refine Kd.C_alloc ?_ _) | (with_reducible refine Kd.C_drewN ?_ _) | (with_reducible refine Kd.C_drew ?_)))
      (case side2 => exact HC1_1.out)
      rintro e w53 ⟨rfl, hb⟩
      refine ⟨_, rfl, ?_⟩
      have n0_ := Aside0.mk (z09q (g := gb249) (o := .cells #[.bool a0_0, .slice A0_1 l0_1.length c0_1] 37 (0, 0)) (by (with_reducible repeat (first | refine z06q ?_ _ | refine z07q ?_ | refine z05q ?_ _)); exact BK249.out) hb)
      have n1_ := Aside0.mk (z09q (g := gb250) (o := .cells #[.bool a1_0, .slice A1_1 l1_1.length c1_1] 37 (0, 0)) (by (with_reducible repeat (first | refine z06q ?_ _ | refine z07q ?_ | refine z05q ?_ _)); exact BK250.out) hb)
      have n2_ := Aside0.mk (z09q (g := gb251) (o := .cells #[.bool false, .slice none 0 0] 37 (0, 0)) (by (with_reducible repeat (first | refine z06q ?_ _ | refine z07q ?_ | refine z05q ?_ _)); exact BK251.out) hb)
      have n3_ := Aside0.mk (z11q (by repeat (first | (with_reducible first | exact HB.out | apply z02q | apply z00q | apply z01q | refine z03q ?_ GE249.out | refine z03q ?_ GE250.out | refine z03q ?_ GE251.out) | exact HB.out)) hb)
      clear BK249
      clear BK250
      clear BK251
      clear HB
      have BK249 := n0_
      have BK250 := n1_
      have BK251 := n2_
      have HB := n3_
      clear n0_ n1_ n2_ n3_
      (try clear hb)
      (try clear hb2)
      (try clear hk)
      (try clear hi)
      refine hK.out _ _ ⟨(z04q BK249.out 0).trans rfl, (z04q BK249.out 1).trans rfl, (z04q BK250.out 0).trans rfl, (z04q BK250.out 1).trans rfl⟩ (fun hHeld => ?_)
      clear hK K
      refine norm_ (a' := ?_) ?_ ?_
      rotate_left
      · show Act.put _ (some 13) _ = _
        simp only [Act.put, List.setIfInBounds_toArray, List.set_cons_zero, List.set_cons_succ, i64_w, i32_w]
        rfl
      refine pure_ (i := 5) (N := some 14) (v := ?_) (a' := ?_) #[true, true, true, true, true, true, false] rfl rfl (by kernel_rfl) (fun _ _ _ h => h) (Or.inl ⟨by rfl, ?_⟩) ?_ ?_
      rotate_left
      · intro w'
        go_simp
        with_reducible rfl
      rotate_left
      · simp only [Act.put, List.setIfInBounds_toArray, List.set_cons_zero, List.set_cons_succ, i64_w, i32_w]
        rfl
      refine pure_ (i := 6) (N := some 15) (v := ?_) (a' := ?_) #[true, true, true, true, true, true, true] rfl rfl (by kernel_rfl) (fun _ _ _ h => h) (Or.inl ⟨by rfl, ?_⟩) ?_ ?_
      rotate_left
      · intro w'
        go_simp
        with_reducible rfl
      rotate_left
      · simp only [Act.put, List.setIfInBounds_toArray, List.set_cons_zero, List.set_cons_succ, i64_w, i32_w]
        rfl
      refine done_ (by kernel_rfl) ?_
      have hnb54 := NB249_250.out
      have hnc54 := NB250_249.out
      have hnb55 := NB249_251.out
      have hnc55 := NB251_249.out
      have hcz56_0 : w53.cell? ⟨gb249, 0, none⟩ = some (.bool a0_0) := (z04q BK249.out 0).trans rfl
      have hcz56_1 : w53.cell? ⟨gb249, 1, none⟩ = some (.slice A0_1 l0_1.length c0_1) := (z04q BK249.out 1).trans rfl
      have hfz56_0 := z08q BK249.out 0
      have hfz56_1 := z08q BK249.out 1
      have hnb57 := NB250_251.out
      have hnc57 := NB251_250.out
      have hcz58_0 : w53.cell? ⟨gb250, 0, none⟩ = some (.bool a1_0) := (z04q BK250.out 0).trans rfl
      have hcz58_1 : w53.cell? ⟨gb250, 1, none⟩ = some (.slice A1_1 l1_1.length c1_1) := (z04q BK250.out 1).trans rfl
      have hfz58_0 := z08q BK250.out 0
      have hfz58_1 := z08q BK250.out 1
      try go_wp2_with (first | ((with_reducible refine z16q (f := 56) rfl ?_); refine goesL_ (some 30) rfl rfl Try.func56 (by kernel_rfl) rfl #[.slice A0_1 l0_1.length c0_1, .slice A1_1 l1_1.length c1_1] rfl (by (try simp only [List.map_toArray, List.map_cons, List.map_nil]); first | done | rfl | (simp only [List.length_drop, List.length_take]; rfl)) ?_; (with_reducible refine (nat_Sub.calls k _ _ l0_1 _ _ l1_1 t262 false _ ?side1 ?side2 ?side3 ?side4 A23.out).mono ?_); (case side1 => repeat (first | exact (Kd.C_below HR0_1.out HB.out) | (with_reducible refine Kd.C_alloc ?_ _) | (with_reducible refine Kd.C_drewN ?_ _) | (with_reducible refine Kd.C_drew ?_))); (case side2 => exact HC0_1.out); (case side3 => repeat (first | exact (Kd.C_below HR1_1.out HB.out) | (with_reducible refine Kd.C_alloc ?_ _) | (with_reducible refine Kd.C_drewN ?_ _) | (with_reducible refine Kd.C_drew ?_))); (case side4 => exact HC1_1.out); rintro e w59 ⟨v264, rfl, ho0, hb⟩; refine ⟨_, rfl, ?_⟩; have n0_ := Aside0.mk (Kd.R_lower ho0 (z10q (by repeat (first | (with_reducible first | exact HB.out | apply z02q | apply z00q | apply z01q | refine z03q ?_ GE249.out | refine z03q ?_ GE250.out | refine z03q ?_ GE251.out) | exact HB.out)))); have n1_ := Aside0.mk (z09q (g := gb249) (o := .cells #[.bool a0_0, .slice A0_1 l0_1.length c0_1] 37 (0, 0)) (by (with_reducible repeat (first | refine z06q ?_ _ | refine z07q ?_ | refine z05q ?_ _)); exact BK249.out) hb); have n2_ := Aside0.mk (z09q (g := gb250) (o := .cells #[.bool a1_0, .slice A1_1 l1_1.length c1_1] 37 (0, 0)) (by (with_reducible repeat (first | refine z06q ?_ _ | refine z07q ?_ | refine z05q ?_ _)); exact BK250.out) hb); have n3_ := Aside0.mk (z09q (g := gb251) (o := .cells #[.bool false, .slice none 0 0] 37 (0, 0)) (by (with_reducible repeat (first | refine z06q ?_ _ | refine z07q ?_ | refine z05q ?_ _)); exact BK251.out) hb); have n4_ := Aside0.mk (z11q (by repeat (first | (with_reducible first | exact HB.out | apply z02q | apply z00q | apply z01q | refine z03q ?_ GE249.out | refine z03q ?_ GE250.out | refine z03q ?_ GE251.out) | exact HB.out)) hb); clear BK249; clear BK250; clear BK251; clear HB; have HO265 := n0_; have BK249 := n1_; have BK250 := n2_; have BK251 := n3_; have HB := n4_; clear n0_ n1_ n2_ n3_ n4_; (try clear hb); (try clear hb2); (try clear hk); (try clear hi); (try clear ho0); have hcz60_0 : w59.cell? ⟨gb250, 0, none⟩ = some (.bool a1_0) := (z04q BK250.out 0).trans rfl; have hcz60_1 : w59.cell? ⟨gb250, 1, none⟩ = some (.slice A1_1 l1_1.length c1_1) := (z04q BK250.out 1).trans rfl; have hfz60_0 := z08q BK250.out 0; have hfz60_1 := z08q BK250.out 1; have hcz61_0 : w59.cell? ⟨gb249, 0, none⟩ = some (.bool a0_0) := (z04q BK249.out 0).trans rfl; have hcz61_1 : w59.cell? ⟨gb249, 1, none⟩ = some (.slice A0_1 l0_1.length c0_1) := (z04q BK249.out 1).trans rfl; have hfz61_0 := z08q BK249.out 0; have hfz61_1 := z08q BK249.out 1) | ((with_reducible refine z16q (f := 56) rfl ?_); refine goesL_ (some 44) rfl rfl Try.func56 (by kernel_rfl) rfl #[.slice A1_1 l1_1.length c1_1, .slice A0_1 l0_1.length c0_1] rfl (by (try simp only [List.map_toArray, List.map_cons, List.map_nil]); first | done | rfl | (simp only [List.length_drop, List.length_take]; rfl)) ?_; (with_reducible refine (nat_Sub.calls k _ _ l1_1 _ _ l0_1 t271 t272 _ ?side1 ?side2 ?side3 ?side4 A45.out).mono ?_); (case side1 => repeat (first | exact (Kd.C_below HR1_1.out HB.out) | (with_reducible refine Kd.C_alloc ?_ _) | (with_reducible refine Kd.C_drewN ?_ _) | (with_reducible refine Kd.C_drew ?_))); (case side2 => exact HC1_1.out); (case side3 => repeat (first | exact (Kd.C_below HR0_1.out HB.out) | (with_reducible refine Kd.C_alloc ?_ _) | (with_reducible refine Kd.C_drewN ?_ _) | (with_reducible refine Kd.C_drew ?_))); (case side4 => exact HC0_1.out); rintro e w62 ⟨v273, rfl, ho0, hb⟩; refine ⟨_, rfl, ?_⟩; have n0_ := Aside0.mk (Kd.R_elder' (by (with_reducible repeat (first | apply Kd.R_alloc | apply Kd.R_drewN | apply Kd.R_drew)); exact HO265.out) (Kd.R_base ho0) hb); have n1_ := Aside0.mk (Kd.R_lower (Kd.R_new' ho0 (Kd.R_lt (by (with_reducible repeat (first | apply Kd.R_alloc | apply Kd.R_drewN | apply Kd.R_drew)); exact HO265.out))) (z10q (by repeat (first | (with_reducible first | exact HB.out | apply z02q | apply z00q | apply z01q | refine z03q ?_ GE249.out | refine z03q ?_ GE250.out | refine z03q ?_ GE251.out) | exact HB.out)))); have n2_ := Aside0.mk (z09q (g := gb249) (o := .cells #[.bool a0_0, .slice A0_1 l0_1.length c0_1] 37 (0, 0)) (by (with_reducible repeat (first | refine z06q ?_ _ | refine z07q ?_ | refine z05q ?_ _)); exact BK249.out) hb); have n3_ := Aside0.mk (z09q (g := gb250) (o := .cells #[.bool a1_0, .slice A1_1 l1_1.length c1_1] 37 (0, 0)) (by (with_reducible repeat (first | refine z06q ?_ _ | refine z07q ?_ | refine z05q ?_ _)); exact BK250.out) hb); have n4_ := Aside0.mk (z09q (g := gb251) (o := .cells #[.bool false, .slice none 0 0] 37 (0, 0)) (by (with_reducible repeat (first | refine z06q ?_ _ | refine z07q ?_ | refine z05q ?_ _)); exact BK251.out) hb); have n5_ := Aside0.mk (z11q (by repeat (first | (with_reducible first | exact HB.out | apply z02q | apply z00q | apply z01q | refine z03q ?_ GE249.out | refine z03q ?_ GE250.out | refine z03q ?_ GE251.out) | exact HB.out)) hb); clear HO265; clear BK249; clear BK250; clear BK251; clear HB; have HO265 := n0_; have HO274 := n1_; have BK249 := n2_; have BK250 := n3_; have BK251 := n4_; have HB := n5_; clear n0_ n1_ n2_ n3_ n4_ n5_; (try clear hb); (try clear hb2); (try clear hk); (try clear hi); (try clear ho0); have hcz63_0 : w62.cell? ⟨gb250, 0, none⟩ = some (.bool a1_0) := (z04q BK250.out 0).trans rfl; have hcz63_1 : w62.cell? ⟨gb250, 1, none⟩ = some (.slice A1_1 l1_1.length c1_1) := (z04q BK250.out 1).trans rfl; have hfz63_0 := z08q BK250.out 0; have hfz63_1 := z08q BK250.out 1) | ((with_reducible refine z16q (f := 44) rfl ?_); refine goesL_ (some 48) rfl rfl Try.func44 (by kernel_rfl) rfl #[.agg #[.bool a1_0, .slice A1_1 l1_1.length c1_1]] rfl (by (try simp only [List.map_toArray, List.map_cons, List.map_nil]); first | done | rfl | (simp only [List.length_drop, List.length_take]; rfl)) ?_; (with_reducible refine (whole_Sign.calls k a1_0 _ _ l1_1 t275 _ ?side1 ?side2 A46.out).mono ?_); (case side1 => repeat (first | exact (Kd.C_below HR1_1.out HB.out) | (with_reducible refine Kd.C_alloc ?_ _) | (with_reducible refine Kd.C_drewN ?_ _) | (with_reducible refine Kd.C_drew ?_))); (case side2 => exact HC1_1.out); rintro e w64 ⟨rfl, hb⟩; refine ⟨_, rfl, ?_⟩; have n0_ := Aside0.mk (Kd.R_below (by (with_reducible repeat (first | apply Kd.R_alloc | apply Kd.R_drewN | apply Kd.R_drew)); exact HO265.out) hb); have n1_ := Aside0.mk (Kd.R_below (by (with_reducible repeat (first | apply Kd.R_alloc | apply Kd.R_drewN | apply Kd.R_drew)); exact HO274.out) hb); have n2_ := Aside0.mk (z09q (g := gb249) (o := .cells #[.bool a0_0, .slice A0_1 l0_1.length c0_1] 37 (0, 0)) (by (with_reducible repeat (first | refine z06q ?_ _ | refine z07q ?_ | refine z05q ?_ _)); exact BK249.out) hb); have n3_ := Aside0.mk (z09q (g := gb250) (o := .cells #[.bool a1_0, .slice A1_1 l1_1.length c1_1] 37 (0, 0)) (by (with_reducible repeat (first | refine z06q ?_ _ | refine z07q ?_ | refine z05q ?_ _)); exact BK250.out) hb); have n4_ := Aside0.mk (z09q (g := gb251) (o := .cells #[.bool false, .slice none 0 0] 37 (0, 0)) (by (with_reducible repeat (first | refine z06q ?_ _ | refine z07q ?_ | refine z05q ?_ _)); exact BK251.out) hb); have n5_ := Aside0.mk (z11q (by repeat (first | (with_reducible first | exact HB.out | apply z02q | apply z00q | apply z01q | refine z03q ?_ GE249.out | refine z03q ?_ GE250.out | refine z03q ?_ GE251.out) | exact HB.out)) hb); clear HO265; clear HO274; clear BK249; clear BK250; clear BK251; clear HB; have HO265 := n0_; have HO274 := n1_; have BK249 := n2_; have BK250 := n3_; have BK251 := n4_; have HB := n5_; clear n0_ n1_ n2_ n3_ n4_ n5_; (try clear hb); (try clear hb2); (try clear hk); (try clear hi); obtain ⟨Ao65, co65, eo65⟩ := Kd.R_slice HO274.out; subst eo65) | ((with_reducible refine z16q (f := 47) rfl ?_); refine goesL_ (some 51) rfl rfl Try.func47 (by kernel_rfl) rfl #[.bool (decide (t275 < 0)), .slice Ao65 t271.length co65] rfl (by (try simp only [List.map_toArray, List.map_cons, List.map_nil]); first | done | rfl | (simp only [List.length_drop, List.length_take]; rfl)) ?_; (with_reducible refine (whole_Make.calls k (decide (t275 < 0)) _ _ t271 t276 t277 _ ?side1 ?side2 A47.out).mono ?_); (case side1 => repeat (first | exact (Kd.R_reads' HO274.out).2.2 | (with_reducible refine Kd.C_alloc ?_ _) | (with_reducible refine Kd.C_drewN ?_ _) | (with_reducible refine Kd.C_drew ?_))); (case side2 => exact (Kd.R_reads' HO274.out).2.1); rintro e w66 ⟨v278, rfl, ho0, hb⟩; refine ⟨_, rfl, ?_⟩; have n0_ := Aside0.mk (Kd.R_elder' (by (with_reducible repeat (first | apply Kd.R_alloc | apply Kd.R_drewN | apply Kd.R_drew)); exact HO265.out) (Kd.R_base ho0) hb); have n1_ := Aside0.mk (Kd.R_elder' (by (with_reducible repeat (first | apply Kd.R_alloc | apply Kd.R_drewN | apply Kd.R_drew)); exact HO274.out) (Kd.R_base ho0) hb); have n2_ := Aside0.mk (Kd.R_lower (Kd.R_new' (Kd.R_new' ho0 (Kd.R_lt (by (with_reducible repeat (first | apply Kd.R_alloc | apply Kd.R_drewN | apply Kd.R_drew)); exact HO265.out))) (Kd.R_lt (by (with_reducible repeat (first | apply Kd.R_alloc | apply Kd.R_drewN | apply Kd.R_drew)); exact HO274.out))) (z10q (by repeat (first | (with_reducible first | exact HB.out | apply z02q | apply z00q | apply z01q | refine z03q ?_ GE249.out | refine z03q ?_ GE250.out | refine z03q ?_ GE251.out) | exact HB.out)))); have n3_ := Aside0.mk (z09q (g := gb249) (o := .cells #[.bool a0_0, .slice A0_1 l0_1.length c0_1] 37 (0, 0)) (by (with_reducible repeat (first | refine z06q ?_ _ | refine z07q ?_ | refine z05q ?_ _)); exact BK249.out) hb); have n4_ := Aside0.mk (z09q (g := gb250) (o := .cells #[.bool a1_0, .slice A1_1 l1_1.length c1_1] 37 (0, 0)) (by (with_reducible repeat (first | refine z06q ?_ _ | refine z07q ?_ | refine z05q ?_ _)); exact BK250.out) hb); have n5_ := Aside0.mk (z09q (g := gb251) (o := .cells #[.bool false, .slice none 0 0] 37 (0, 0)) (by (with_reducible repeat (first | refine z06q ?_ _ | refine z07q ?_ | refine z05q ?_ _)); exact BK251.out) hb); have n6_ := Aside0.mk (z11q (by repeat (first | (with_reducible first | exact HB.out | apply z02q | apply z00q | apply z01q | refine z03q ?_ GE249.out | refine z03q ?_ GE250.out | refine z03q ?_ GE251.out) | exact HB.out)) hb); clear HO265; clear HO274; clear BK249; clear BK250; clear BK251; clear HB; have HO265 := n0_; have HO274 := n1_; have HO279 := n2_; have BK249 := n3_; have BK250 := n4_; have BK251 := n5_; have HB := n6_; clear n0_ n1_ n2_ n3_ n4_ n5_ n6_; (try clear hb); (try clear hb2); (try clear hk); (try clear hi); (try clear ho0); have hcz67_0 : w66.cell? ⟨gb251, 0, none⟩ = some (.bool false) := (z04q BK251.out 0).trans rfl; have hcz67_1 : w66.cell? ⟨gb251, 1, none⟩ = some (.slice none 0 0) := (z04q BK251.out 1).trans rfl; have hfz67_0 := z08q BK251.out 0; have hfz67_1 := z08q BK251.out 1; obtain ⟨Ao68, co68, eo68⟩ := Kd.R_slice HO279.out; subst eo68))
      refine bodyPost_ret (results_cell_row rfl _ _ gb251 37 #[.bool t276, .slice Ao68 t277.length co68] (0, 0) _ rfl (by (with_reducible repeat (first | refine z06q ?_ _ | refine z07q ?_ | refine z05q ?_ _)); refine blk_put (cs := #[.bool t276, .slice none 0 0]) ?_ 1 _ rfl; (with_reducible repeat (first | refine z06q ?_ _ | refine z07q ?_ | refine z05q ?_ _)); refine blk_put (cs := #[.bool false, .slice none 0 0]) ?_ 0 _ rfl; (with_reducible repeat (first | refine z06q ?_ _ | refine z07q ?_ | refine z05q ?_ _)); exact BK251.out) Try.underlying37 rfl (by kernel_rfl)) rfl ?_
      exact ⟨_, by first | rfl | (simp [z14q, z13q] <;> rfl) | (simp [*, z14q, z13q] <;> rfl), by (with_reducible repeat (first | apply Kd.R_alloc | apply Kd.R_drewN | apply Kd.R_drew)); exact Kd.R_mono (Kd.R_far (p := ⟨gb251, 1, none⟩) (Kd.R_far (p := ⟨gb251, 0, none⟩) (Kd.R_types HO279.out BK251.out (by decide)) (fun _ hk => hk.2) (.bool t276)) (fun _ hk => hk.2) (.slice Ao68 t277.length co68)) (fun _ hk => trivial), by repeat (first | (with_reducible first | exact HB.out | apply z02q | apply z00q | apply z01q | refine z03q ?_ GE249.out | refine z03q ?_ GE250.out | refine z03q ?_ GE251.out) | exact HB.out)⟩
def whole_Text.f (k : Nat) (a0_0 : Bool) (l0_1 : List Int) : Option (ByteArray) := (whole_Sign.f k a0_0 l0_1).bind fun t281 => (if t281 < 0 then ((nat_Text.f k l0_1).bind fun t282 => (if 1 + t282.size ≤ 9223372036854775807 then (some ((⟨#[45]⟩ : ByteArray) ++ t282)) else (none))) else ((nat_Text.f k l0_1).bind fun t283 => (some t283)))
theorem whole_Text.mono : ∀ a0 a1 k, LeO (whole_Text.f k a0 a1) (whole_Text.f (k + 1) a0 a1) := by
  intro a0 a1 k
  unfold whole_Text.f
  repeat' first
      | (with_reducible exact nat_Text.mono _ _)
      | (with_reducible exact whole_Sign.mono _ _ _)
      | (with_reducible exact LeO.refl _)
      | (with_reducible exact LeO.none _)
      | (with_reducible refine LeO.ite ?_ ?_)
      | (with_reducible refine LeO.bind ?_ (fun _ => ?_))
      | exact nat_Text.mono _ _
      | exact whole_Sign.mono _ _ _
      | exact LeO.none _
      | refine LeO.ite ?_ ?_
      | refine LeO.bind ?_ (fun _ => ?_)
set_option maxHeartbeats 8000000 in
set_option maxRecDepth 100000 in
theorem whole_Text.calls (k : Nat) (a0_0 : Bool) (A0_1 : Option Addr) (c0_1 : Nat) (l0_1 : List Int) (r : ByteArray) (w : World) (hr0_1 : Kd.C (Kd.int .u32) w A0_1 l0_1.length l0_1) (hc0_1 : l0_1.length ≤ c0_1) (h : whole_Text.f k a0_0 l0_1 = some r) :
    Calls Try.prog 30 #[.agg #[.bool a0_0, .slice A0_1 l0_1.length c0_1]] w fun e w' => e = .returned (.string r) ∧ Below w.heap.size w w' := by
  have hu37 := Try.underlying37
  have HR0_1 := Aside0.mk hr0_1
  have HC0_1 := Aside0.mk hc0_1
  clear hr0_1 hc0_1
  have HB := Aside0.mk (Below.refl w.heap.size w)
  have H : ((whole_Sign.f k a0_0 l0_1).bind fun t281 => (if t281 < 0 then ((nat_Text.f k l0_1).bind fun t282 => (if 1 + t282.size ≤ 9223372036854775807 then (some ((⟨#[45]⟩ : ByteArray) ++ t282)) else (none))) else ((nat_Text.f k l0_1).bind fun t283 => (some t283)))) = some r := h
  clear h
  replace H := Option.bind_eq_some_iff.mp H
  obtain ⟨t281, A20, H⟩ := H
  replace H : (if t281 < 0 then ((nat_Text.f k l0_1).bind fun t282 => (if 1 + t282.size ≤ 9223372036854775807 then (some ((⟨#[45]⟩ : ByteArray) ++ t282)) else (none))) else ((nat_Text.f k l0_1).bind fun t283 => (some t283))) = some r := H
  have A2 := Aside0.mk A20
  clear A20
  by_cases c3 : t281 < 0
  · rw [if_pos c3] at H
    have c3b0 : decide (t281 < 0) = true := decide_eq_true c3
    clear c3
    replace H := Option.bind_eq_some_iff.mp H
    obtain ⟨t282, A40, H⟩ := H
    replace H : (if 1 + t282.size ≤ 9223372036854775807 then (some ((⟨#[45]⟩ : ByteArray) ++ t282)) else (none)) = some r := H
    have A4 := Aside0.mk A40
    clear A40
    by_cases c5 : 1 + t282.size ≤ 9223372036854775807
    · rw [if_pos c5] at H
      have c5b0 := eq_true c5
      have c5b1 : decide (1 + t282.size ≤ 9223372036854775807) = true := decide_eq_true c5
      try have c5b2 : (9223372036854775807 < 1 + t282.size) = False := eq_false (Nat.not_lt.2 c5)
      obtain rfl := Option.some.inj H
      go_enter Try.func30, Try.ntmps30
      go_wp2_with (first | ((with_reducible refine z18q (N := 1) rfl ?_); refine z17q ?hg (N := 1) ?hd (cs := #[.bool a0_0, .slice A0_1 l0_1.length c0_1]) (t := 37) ?hr ?_; (case hd => rfl); (case hg => rfl); (case hr => first | (go_simp; done) | (go_simp; rfl)); intro gb280 hg w6 hbox hb; have n0_ := Aside0.mk (z11q (by repeat (first | (with_reducible first | exact HB.out | apply z02q | apply z00q | apply z01q) | exact HB.out)) hb); have n1_ := Aside0.mk (hbox); have n2_ := Aside0.mk ((by rw [hg]; exact (z10q (by repeat (first | (with_reducible first | exact HB.out | apply z02q | apply z00q | apply z01q) | exact HB.out))) : w.heap.size ≤ gb280)); have n3_ := Aside0.mk ((by rw [hg]; exact (z10q (by repeat (first | (with_reducible first | exact HB.out | apply z02q | apply z00q | apply z01q) | exact HB.out))) : w.heap.size ≤ gb280)); clear HB; have HB := n0_; have BK280 := n1_; have GW280 := n2_; have GE280 := n3_; clear n0_ n1_ n2_ n3_; clear hb hbox hg; have hcz7_0 : w6.cell? ⟨gb280, 0, none⟩ = some (.bool a0_0) := (z04q BK280.out 0).trans rfl; have hcz7_1 : w6.cell? ⟨gb280, 1, none⟩ = some (.slice A0_1 l0_1.length c0_1) := (z04q BK280.out 1).trans rfl; have hfz7_0 := z08q BK280.out 0; have hfz7_1 := z08q BK280.out 1) | ((with_reducible refine z16q (f := 44) rfl ?_); refine goesL_ (some 4) rfl rfl Try.func44 (by kernel_rfl) rfl #[.agg #[.bool a0_0, .slice A0_1 l0_1.length c0_1]] rfl (by (try simp only [List.map_toArray, List.map_cons, List.map_nil]); first | done | rfl | (simp only [List.length_drop, List.length_take]; rfl)) ?_; (with_reducible refine (whole_Sign.calls k a0_0 _ _ l0_1 t281 _ ?side1 ?side2 A2.out).mono ?_); (case side1 => repeat (first | exact (Kd.C_below HR0_1.out HB.out) | (with_reducible refine Kd.C_alloc ?_ _) | (with_reducible refine Kd.C_drewN ?_ _) | (with_reducible refine Kd.C_drew ?_))); (case side2 => exact HC0_1.out); rintro e w8 ⟨rfl, hb⟩; refine ⟨_, rfl, ?_⟩; have n0_ := Aside0.mk (z09q (g := gb280) (o := .cells #[.bool a0_0, .slice A0_1 l0_1.length c0_1] 37 (0, 0)) (by (with_reducible repeat (first | refine z06q ?_ _ | refine z07q ?_ | refine z05q ?_ _)); exact BK280.out) hb); have n1_ := Aside0.mk (z11q (by repeat (first | (with_reducible first | exact HB.out | apply z02q | apply z00q | apply z01q | refine z03q ?_ GE280.out) | exact HB.out)) hb); clear BK280; clear HB; have BK280 := n0_; have HB := n1_; clear n0_ n1_; (try clear hb); (try clear hb2); (try clear hk); (try clear hi); have hcz9_0 : w8.cell? ⟨gb280, 0, none⟩ = some (.bool a0_0) := (z04q BK280.out 0).trans rfl; have hcz9_1 : w8.cell? ⟨gb280, 1, none⟩ = some (.slice A0_1 l0_1.length c0_1) := (z04q BK280.out 1).trans rfl; have hfz9_0 := z08q BK280.out 0; have hfz9_1 := z08q BK280.out 1) | ((with_reducible refine z16q (f := 31) rfl ?_); refine goesL_ (some 8) rfl rfl Try.func31 (by kernel_rfl) rfl #[.slice A0_1 l0_1.length c0_1] rfl (by (try simp only [List.map_toArray, List.map_cons, List.map_nil]); first | done | rfl | (simp only [List.length_drop, List.length_take]; rfl)) ?_; (with_reducible refine (nat_Text.calls k _ _ l0_1 t282 _ ?side1 ?side2 A4.out).mono ?_); (case side1 => repeat (first | exact (Kd.C_below HR0_1.out HB.out) | (with_reducible refine Kd.C_alloc ?_ _) | (with_reducible refine Kd.C_drewN ?_ _) | (with_reducible refine Kd.C_drew ?_))); (case side2 => exact HC0_1.out); rintro e w10 ⟨rfl, hb⟩; refine ⟨_, rfl, ?_⟩; have n0_ := Aside0.mk (z09q (g := gb280) (o := .cells #[.bool a0_0, .slice A0_1 l0_1.length c0_1] 37 (0, 0)) (by (with_reducible repeat (first | refine z06q ?_ _ | refine z07q ?_ | refine z05q ?_ _)); exact BK280.out) hb); have n1_ := Aside0.mk (z11q (by repeat (first | (with_reducible first | exact HB.out | apply z02q | apply z00q | apply z01q | refine z03q ?_ GE280.out) | exact HB.out)) hb); clear BK280; clear HB; have BK280 := n0_; have HB := n1_; clear n0_ n1_; (try clear hb); (try clear hb2); (try clear hk); (try clear hi)))
      go_ret
      exact ⟨by first | rfl | (simp [z14q, z13q] <;> rfl) | (simp [*, z14q, z13q] <;> rfl), by repeat (first | (with_reducible first | exact HB.out | apply z02q | apply z00q | apply z01q | refine z03q ?_ GE280.out) | exact HB.out)⟩
    · rw [if_neg c5] at H
      exact absurd H (by simp)
  · rw [if_neg c3] at H
    have c3b0 : decide (t281 < 0) = false := decide_eq_false c3
    clear c3
    replace H := Option.bind_eq_some_iff.mp H
    obtain ⟨t283, A110, H⟩ := H
    replace H : (some t283) = some r := H
    have A11 := Aside0.mk A110
    clear A110
    obtain rfl := Option.some.inj H
    go_enter Try.func30, Try.ntmps30
    go_wp2_with (first | ((with_reducible refine z18q (N := 1) rfl ?_); refine z17q ?hg (N := 1) ?hd (cs := #[.bool a0_0, .slice A0_1 l0_1.length c0_1]) (t := 37) ?hr ?_; (case hd => rfl); (case hg => rfl); (case hr => first | (go_simp; done) | (go_simp; rfl)); intro gb280 hg w12 hbox hb; have n0_ := Aside0.mk (z11q (by repeat (first | (with_reducible first | exact HB.out | apply z02q | apply z00q | apply z01q) | exact HB.out)) hb); have n1_ := Aside0.mk (hbox); have n2_ := Aside0.mk ((by rw [hg]; exact (z10q (by repeat (first | (with_reducible first | exact HB.out | apply z02q | apply z00q | apply z01q) | exact HB.out))) : w.heap.size ≤ gb280)); have n3_ := Aside0.mk ((by rw [hg]; exact (z10q (by repeat (first | (with_reducible first | exact HB.out | apply z02q | apply z00q | apply z01q) | exact HB.out))) : w.heap.size ≤ gb280)); clear HB; have HB := n0_; have BK280 := n1_; have GW280 := n2_; have GE280 := n3_; clear n0_ n1_ n2_ n3_; clear hb hbox hg; have hcz13_0 : w12.cell? ⟨gb280, 0, none⟩ = some (.bool a0_0) := (z04q BK280.out 0).trans rfl; have hcz13_1 : w12.cell? ⟨gb280, 1, none⟩ = some (.slice A0_1 l0_1.length c0_1) := (z04q BK280.out 1).trans rfl; have hfz13_0 := z08q BK280.out 0; have hfz13_1 := z08q BK280.out 1) | ((with_reducible refine z16q (f := 44) rfl ?_); refine goesL_ (some 4) rfl rfl Try.func44 (by kernel_rfl) rfl #[.agg #[.bool a0_0, .slice A0_1 l0_1.length c0_1]] rfl (by (try simp only [List.map_toArray, List.map_cons, List.map_nil]); first | done | rfl | (simp only [List.length_drop, List.length_take]; rfl)) ?_; (with_reducible refine (whole_Sign.calls k a0_0 _ _ l0_1 t281 _ ?side1 ?side2 A2.out).mono ?_); (case side1 => repeat (first | exact (Kd.C_below HR0_1.out HB.out) | (with_reducible refine Kd.C_alloc ?_ _) | (with_reducible refine Kd.C_drewN ?_ _) | (with_reducible refine Kd.C_drew ?_))); (case side2 => exact HC0_1.out); rintro e w14 ⟨rfl, hb⟩; refine ⟨_, rfl, ?_⟩; have n0_ := Aside0.mk (z09q (g := gb280) (o := .cells #[.bool a0_0, .slice A0_1 l0_1.length c0_1] 37 (0, 0)) (by (with_reducible repeat (first | refine z06q ?_ _ | refine z07q ?_ | refine z05q ?_ _)); exact BK280.out) hb); have n1_ := Aside0.mk (z11q (by repeat (first | (with_reducible first | exact HB.out | apply z02q | apply z00q | apply z01q | refine z03q ?_ GE280.out) | exact HB.out)) hb); clear BK280; clear HB; have BK280 := n0_; have HB := n1_; clear n0_ n1_; (try clear hb); (try clear hb2); (try clear hk); (try clear hi); have hcz15_0 : w14.cell? ⟨gb280, 0, none⟩ = some (.bool a0_0) := (z04q BK280.out 0).trans rfl; have hcz15_1 : w14.cell? ⟨gb280, 1, none⟩ = some (.slice A0_1 l0_1.length c0_1) := (z04q BK280.out 1).trans rfl; have hfz15_0 := z08q BK280.out 0; have hfz15_1 := z08q BK280.out 1) | ((with_reducible refine z16q (f := 31) rfl ?_); refine goesL_ (some 12) rfl rfl Try.func31 (by kernel_rfl) rfl #[.slice A0_1 l0_1.length c0_1] rfl (by (try simp only [List.map_toArray, List.map_cons, List.map_nil]); first | done | rfl | (simp only [List.length_drop, List.length_take]; rfl)) ?_; (with_reducible refine (nat_Text.calls k _ _ l0_1 t283 _ ?side1 ?side2 A11.out).mono ?_); (case side1 => repeat (first | exact (Kd.C_below HR0_1.out HB.out) | (with_reducible refine Kd.C_alloc ?_ _) | (with_reducible refine Kd.C_drewN ?_ _) | (with_reducible refine Kd.C_drew ?_))); (case side2 => exact HC0_1.out); rintro e w16 ⟨rfl, hb⟩; refine ⟨_, rfl, ?_⟩; have n0_ := Aside0.mk (z09q (g := gb280) (o := .cells #[.bool a0_0, .slice A0_1 l0_1.length c0_1] 37 (0, 0)) (by (with_reducible repeat (first | refine z06q ?_ _ | refine z07q ?_ | refine z05q ?_ _)); exact BK280.out) hb); have n1_ := Aside0.mk (z11q (by repeat (first | (with_reducible first | exact HB.out | apply z02q | apply z00q | apply z01q | refine z03q ?_ GE280.out) | exact HB.out)) hb); clear BK280; clear HB; have BK280 := n0_; have HB := n1_; clear n0_ n1_; (try clear hb); (try clear hb2); (try clear hk); (try clear hi)))
    go_ret
    exact ⟨by first | rfl | (simp [z14q, z13q] <;> rfl) | (simp [*, z14q, z13q] <;> rfl), by repeat (first | (with_reducible first | exact HB.out | apply z02q | apply z00q | apply z01q | refine z03q ?_ GE280.out) | exact HB.out)⟩
def stock_in.f (a0 : Int) (a1 : Int) (a2 : Int) : Option (Bool) := if a0 ≥ a1 then (some (decide (a0 ≤ a2))) else (some false)
set_option maxHeartbeats 8000000 in
set_option maxRecDepth 100000 in
theorem stock_in.calls (a0 : Int) (a1 : Int) (a2 : Int) (r : Bool) (w : World) (h : stock_in.f a0 a1 a2 = some r) :
    Calls Try.prog 34 #[.int .i64 a0, .int .i64 a1, .int .i64 a2] w fun e w' => e = .returned (.bool r) ∧ Drawn0 w w' := by
  have H : (if a0 ≥ a1 then (some (decide (a0 ≤ a2))) else (some false)) = some r := h
  clear h
  by_cases c4 : a0 ≥ a1
  · rw [if_pos c4] at H
    have c4b0 : decide (a1 ≤ a0) = true := decide_eq_true c4
    clear c4
    obtain rfl := Option.some.inj H
    go_enter Try.func34, Try.ntmps34
    go_wp2
    go_ret
    exact ⟨by first | rfl | (simp; done) | (simp [*]; done), by repeat (first | exact Drawn0.refl _ | apply Drawn0.step)⟩
  · rw [if_neg c4] at H
    have c4b0 : decide (a1 ≤ a0) = false := decide_eq_false c4
    clear c4
    obtain rfl := Option.some.inj H
    go_enter Try.func34, Try.ntmps34
    go_wp2
    go_ret
    exact ⟨by first | rfl | (simp; done) | (simp [*]; done), by repeat (first | exact Drawn0.refl _ | apply Drawn0.step)⟩
set_option maxRecDepth 100000
def rat_den.f (k : Nat) (l : List Int) : Option (List Int) := (nat_Bits.f k l).bind fun t => if t = 0 then nat_Of.f k 1 else some l
theorem rat_den.mono : ∀ a k, LeO (rat_den.f k a) (rat_den.f (k + 1) a) := fun a k => by
  unfold rat_den.f
  exact LeO.bind (nat_Bits.mono _ _) (fun _ => LeO.ite (nat_Of.mono _ _) (LeO.refl _))
set_option maxHeartbeats 4000000 in
theorem rat_den.reads (k : Nat) (b : Bool) (A1 : Option Addr) (n1 c1 : Nat) (A : Option Addr) (c : Nat) (l r : List Int) (w : World) (hr : Kd.C (Kd.int .u32) w A l.length l) (hc : l.length ≤ c) (h : rat_den.f k l = some r) :
    Calls Try.prog 43 #[.agg #[.bool b, .slice A1 n1 c1, .slice A l.length c]] w fun e w' => ∃ (A' : Option Addr) (c' : Nat), e = .returned (.slice A' r.length c') ∧ r.length ≤ c' ∧ Kd.C (Kd.int .u32) w' A' r.length r ∧ Below w.heap.size w w' := by
  obtain ⟨t, ht, h⟩ := Option.bind_eq_some_iff.mp h
  have HT : Hid (nat_Bits.f k l = some t) := ht
  have HH : Hid ((if t = 0 then nat_Of.f k 1 else some l) = some r) := h
  have HR := Aside0.mk hr
  have HC := Aside0.mk hc
  clear ht h hr hc
  have hb0 : Aside0 (Below w.heap.size w (w.alloc (.cells #[.bool b, .slice A1 n1 c1, .slice A l.length c] 39))) := ⟨(Below.refl _ w).alloc (Nat.le_refl _) _⟩
  have c0 : (w.alloc (.cells #[.bool b, .slice A1 n1 c1, .slice A l.length c] 39)).cell? ⟨w.heap.size, 2, none⟩ = some (.slice A l.length c) := by go_simp
  by_cases ht0 : t = 0
  · have hh := HH.out
    rw [if_pos ht0] at hh
    have HO : Hid (nat_Of.f k 1 = some r) := hh
    clear hh HH
    have e0 : (t == 0) = true := beq_iff_eq.2 ht0
    clear ht0
    go_enter Try.func43, Try.ntmps43
    go_wp2_with (first
      | (go_at_call 57; (with_reducible refine (nat_Bits.calls k A c l t _ (Kd.C_below HR.out hb0.out) HC.out HT.out).mono ?_); rintro e w1 ⟨rfl, hb1⟩; have c1' := z15q hb1 c0; have HB1 : Aside0 (Below w.heap.size w w1) := ⟨hb0.out.trans (hb1.mono hb0.out.size)⟩; clear hb1)
      | (go_at_call 38; (with_reducible refine (nat_Of.calls k 1 r _ HO.out).mono ?_); rintro e w2 ⟨v2, rfl, hv2, hb2⟩; obtain ⟨A2, c2, rfl, hl2, hC2⟩ := Kd.R_reads hv2; have F2 : Aside0 (r.length ≤ c2 ∧ Kd.C (Kd.int .u32) w2 A2 r.length r ∧ Below w.heap.size w w2) := ⟨hl2, hC2, HB1.out.trans (hb2.mono HB1.out.size)⟩; clear hv2 hb2 hl2 hC2))
    go_ret
    exact ⟨_, _, rfl, F2.out⟩
  · have hh := HH.out
    rw [if_neg ht0] at hh
    obtain rfl := Option.some.inj hh
    clear hh HH
    have e0 : (t == 0) = false := beq_eq_false_iff_ne.2 ht0
    go_enter Try.func43, Try.ntmps43
    go_wp2_with (first
      | (go_at_call 57; (with_reducible refine (nat_Bits.calls k A c l t _ (Kd.C_below HR.out hb0.out) HC.out HT.out).mono ?_); rintro e w1 ⟨rfl, hb1⟩; have c1' := z15q hb1 c0; have HB1 : Aside0 (Below w.heap.size w w1) := ⟨hb0.out.trans (hb1.mono hb0.out.size)⟩; clear hb1))
    go_ret
    exact ⟨_, _, rfl, HC.out, Kd.C_below HR.out HB1.out, HB1.out⟩
set_option maxRecDepth 100000
def rat_Make.f (k : Nat) (a0_0 : Bool) (l0_1 : List Int) (l1 : List Int) : Option (Bool × List Int × List Int) := (rat_den.f k l1).bind fun d => (nat_Gcd.f k l0_1 d).bind fun g => (nat_DivMod.f l0_1 g).bind fun n => (nat_DivMod.f d g).bind fun m => (whole_Make.f k a0_0 n.1).bind fun x => some (x.1, x.2, m.1)
theorem rat_Make.mono : ∀ a0 a1 a2 k, LeO (rat_Make.f k a0 a1 a2) (rat_Make.f (k + 1) a0 a1 a2) := fun a0 a1 a2 k => by
  unfold rat_Make.f
  exact LeO.bind (rat_den.mono _ _) (fun _ => LeO.bind (nat_Gcd.mono _ _ _) (fun _ => LeO.bind (LeO.refl _) (fun _ => LeO.bind (LeO.refl _) (fun _ => LeO.bind (whole_Make.mono _ _ _) (fun _ => LeO.refl _)))))
set_option maxHeartbeats 8000000 in
theorem rat_Make.calls (k : Nat) (a0_0 : Bool) (A0_1 : Option Addr) (c0_1 : Nat) (l0_1 : List Int) (A1 : Option Addr) (c1 : Nat) (l1 : List Int) (r1 : Bool) (r2 r3 : List Int) (w : World) (hr0_1 : Kd.C (Kd.int .u32) w A0_1 l0_1.length l0_1) (hc0_1 : l0_1.length ≤ c0_1) (hr1 : Kd.C (Kd.int .u32) w A1 l1.length l1) (hc1 : l1.length ≤ c1) (h : rat_Make.f k a0_0 l0_1 l1 = some (r1, r2, r3)) :
    Calls Try.prog 28 #[.agg #[.bool a0_0, .slice A0_1 l0_1.length c0_1], .slice A1 l1.length c1] w fun e w' => ∃ v1_ v2_ : Value, e = .returned (.agg #[.bool r1, v1_, v2_]) ∧ Kd.R (Kd.int .u32) 96 w' w.heap.size (fun k_ => some k_ ≠ (v2_ : Value).ownBlock) v1_ r2 ∧ Kd.R (Kd.int .u32) 96 w' w.heap.size (fun k_ => some k_ ≠ (v1_ : Value).ownBlock) v2_ r3 ∧ Below w.heap.size w w' := by
  obtain ⟨d, hd, h⟩ := Option.bind_eq_some_iff.mp h
  obtain ⟨g, hg, h⟩ := Option.bind_eq_some_iff.mp h
  obtain ⟨⟨n, n2, n3⟩, hn, h⟩ := Option.bind_eq_some_iff.mp h
  obtain ⟨⟨m, m2, m3⟩, hm, h⟩ := Option.bind_eq_some_iff.mp h
  obtain ⟨⟨x1, x2⟩, hx, h⟩ := Option.bind_eq_some_iff.mp h
  simp only [Option.some.injEq, Prod.mk.injEq] at h
  obtain ⟨rfl, rfl, rfl⟩ := h
  have HD : Hid (rat_den.f k l1 = some d) := hd
  have HG : Hid (nat_Gcd.f k l0_1 d = some g) := hg
  have HN : Hid (nat_DivMod.f l0_1 g = some (n, n2, n3)) := hn
  have HM : Hid (nat_DivMod.f d g = some (m, m2, m3)) := hm
  have HX : Hid (whole_Make.f k a0_0 n = some (x1, x2)) := hx
  have HR0 := Aside0.mk hr0_1
  have HC0 := Aside0.mk hc0_1
  have HR1 := Aside0.mk hr1
  have HC1 := Aside0.mk hc1
  clear hd hg hn hm hx hr0_1 hc0_1 hr1 hc1
  have hb0 : Aside0 (Below w.heap.size w ((w.alloc (.cells #[.bool a0_0, .slice A0_1 l0_1.length c0_1] 37)).alloc (.cells #[.bool false, .slice none 0 0, .slice none 0 0] 39))) := ⟨((Below.refl _ w).alloc (Nat.le_refl _) _).alloc (by simp) _⟩
  have bN : Aside0 (((w.alloc (.cells #[.bool a0_0, .slice A0_1 l0_1.length c0_1] 37)).alloc (.cells #[.bool false, .slice none 0 0, .slice none 0 0] 39)).heap[w.heap.size]? = some (.cells #[.bool a0_0, .slice A0_1 l0_1.length c0_1] 37)) := ⟨z05q (World.alloc_heap_new w _) _⟩
  have bR : Aside0 (((w.alloc (.cells #[.bool a0_0, .slice A0_1 l0_1.length c0_1] 37)).alloc (.cells #[.bool false, .slice none 0 0, .slice none 0 0] 39)).heap[w.heap.size + 1]? = some (.cells #[.bool false, .slice none 0 0, .slice none 0 0] 39)) := ⟨by have := World.alloc_heap_new (w.alloc (.cells #[.bool a0_0, .slice A0_1 l0_1.length c0_1] 37)) (.cells #[.bool false, .slice none 0 0, .slice none 0 0] 39); rwa [World.size_alloc] at this⟩
  go_enter Try.func28, Try.ntmps28
  go_wp2_with (first
    | (go_at_call 43; (with_reducible refine (rat_den.reads k false none 0 0 A1 c1 l1 d _ (Kd.C_below HR1.out hb0.out) HC1.out HD.out).mono ?_); rintro e w1 ⟨Ad, cd, rfl, hld, hCd, hb1⟩; have B1 : Aside0 (Below w.heap.size w w1) := ⟨hb0.out.trans (hb1.mono hb0.out.size)⟩; have N1 := Aside0.mk (z09q bN.out hb1); have R1 := Aside0.mk (z09q bR.out hb1); have D1 := Aside0.mk (And.intro hld hCd); have cN1 : w1.cell? ⟨w.heap.size, 1, none⟩ = some (.slice A0_1 l0_1.length c0_1) := (z04q N1.out 1).trans rfl; clear hb1 hld hCd)
    | (go_at_call 48; (with_reducible refine (nat_Gcd.calls k A0_1 c0_1 l0_1 Ad cd d g _ (Kd.C_below HR0.out B1.out) HC0.out D1.out.2 D1.out.1 HG.out).mono ?_); rintro e w2 ⟨v2, rfl, hv2, hb2⟩; obtain ⟨Ag, cg, rfl, hlg, hCg⟩ := Kd.R_reads hv2; have B2 : Aside0 (Below w.heap.size w w2) := ⟨B1.out.trans (hb2.mono B1.out.size)⟩; have N2 := Aside0.mk (z09q N1.out hb2); have R2 := Aside0.mk (z09q R1.out hb2); have D2 := Aside0.mk (And.intro D1.out.1 (Kd.C_below D1.out.2 hb2)); have G2 := Aside0.mk (And.intro hlg hCg); have cM1 : w2.cell? ⟨w.heap.size, 1, none⟩ = some (.slice A0_1 l0_1.length c0_1) := (z04q N2.out 1).trans rfl; clear hb2 hlg hCg hv2 cN1)
    | (go_at_call 49; (with_reducible refine (nat_DivMod.calls A0_1 c0_1 l0_1 Ag cg g n n2 n3 _ (Kd.C_below HR0.out B2.out) HC0.out G2.out.2 G2.out.1 HN.out).mono ?_); rintro e w3 ⟨v3, v3b, rfl, hv3, -, hb3⟩; obtain ⟨An, cn, rfl, hln, hCn⟩ := Kd.R_reads hv3; have B3 : Aside0 (Below w.heap.size w w3) := ⟨B2.out.trans (hb3.mono B2.out.size)⟩; have N3 := Aside0.mk (z09q N2.out hb3); have R3 := Aside0.mk (z09q R2.out hb3); have D3 := Aside0.mk (And.intro D2.out.1 (Kd.C_below D2.out.2 hb3)); have G3 := Aside0.mk (And.intro G2.out.1 (Kd.C_below G2.out.2 hb3)); have M3 := Aside0.mk (And.intro hln hCn); clear hb3 hln hCn hv3 cM1)
    | (go_at_call 49; (with_reducible refine (nat_DivMod.calls Ad cd d Ag cg g m m2 m3 _ D3.out.2 D3.out.1 G3.out.2 G3.out.1 HM.out).mono ?_); rintro e w4 ⟨v4, v4b, rfl, hv4, -, hb4⟩; obtain ⟨Am, cm, rfl, hlm, hCm⟩ := Kd.R_reads hv4; have B4 : Aside0 (Below w.heap.size w w4) := ⟨B3.out.trans (hb4.mono B3.out.size)⟩; have N4 := Aside0.mk (z09q N3.out hb4); have R4 := Aside0.mk (z09q R3.out hb4); have M4 := Aside0.mk (And.intro M3.out.1 (Kd.C_below M3.out.2 hb4)); have V4 := Aside0.mk hv4; have S4 : Aside0 (w3.heap.size ≤ w4.heap.size) := ⟨hb4.size⟩; have cP0 : w4.cell? ⟨w.heap.size, 0, none⟩ = some (.bool a0_0) := (z04q N4.out 0).trans rfl; clear hb4 hlm hCm hv4)
    | (go_at_call 47; (with_reducible refine (whole_Make.calls k a0_0 An cn n x1 x2 _ M4.out.2 M4.out.1 HX.out).mono ?_); rintro e w5 ⟨v5, rfl, hv5, hb5⟩; obtain ⟨Ax, cx, rfl, hlx, hCx⟩ := Kd.R_reads hv5; have B5 : Aside0 (Below w.heap.size w w5) := ⟨B4.out.trans (hb5.mono B4.out.size)⟩; have R5 := Aside0.mk (z09q R4.out hb5); have V5 := Aside0.mk hv5; have B45 := Aside0.mk hb5; have q0 : w5.cell? ⟨w.heap.size + 1, 0, none⟩ = some (.bool false) := (z04q R5.out 0).trans rfl; have q1 : w5.cell? ⟨w.heap.size + 1, 1, none⟩ = some (.slice none 0 0) := (z04q R5.out 1).trans rfl; have q2 : w5.cell? ⟨w.heap.size + 1, 2, none⟩ = some (.slice none 0 0) := (z04q R5.out 2).trans rfl; have f0 := z08q R5.out 0; have f1 := z08q R5.out 1; have f2 := z08q R5.out 2; clear hb5 hlx hCx hv5 cP0))
  refine bodyPost_ret (results_cell_row rfl _ _ (w.heap.size + 1) 39 #[.bool x1, .slice Ax x2.length cx, .slice Am m.length cm] (0, 0) _ rfl (blk_put (cs := #[.bool x1, .slice Ax x2.length cx, .slice none 0 0]) (blk_put (cs := #[.bool x1, .slice none 0 0, .slice none 0 0]) (blk_put (cs := #[.bool false, .slice none 0 0, .slice none 0 0]) R5.out 0 _ rfl) 1 _ rfl) 2 _ rfl) Try.underlying39 rfl (by kernel_rfl)) rfl ?_
  have s3 : w.heap.size + 1 < w4.heap.size := blk_lt R4.out
  have s3' : w.heap.size + 1 < w3.heap.size := blk_lt R3.out
  have hs3 := B3.out.size
  have hs4 := S4.out
  refine ⟨_, _, rfl, ?_, ?_, ((B5.out.setCell (p := ⟨w.heap.size + 1, 0, none⟩) (by simp) _).setCell (p := ⟨w.heap.size + 1, 1, none⟩) (by simp) _).setCell (p := ⟨w.heap.size + 1, 2, none⟩) (by simp) _⟩
  · refine Kd.R_lower (Kd.R_mono (Kd.R_far (p := ⟨w.heap.size + 1, 2, none⟩) (Kd.R_far (p := ⟨w.heap.size + 1, 1, none⟩) (Kd.R_far (p := ⟨w.heap.size + 1, 0, none⟩) (Kd.R_bound V5.out) (fun k hk => by have := hk.2.1; show k ≠ w.heap.size + 1; omega) _) (fun k hk => by have := hk.2.1; show k ≠ w.heap.size + 1; omega) _) (fun k hk => by have := hk.2.1; show k ≠ w.heap.size + 1; omega) _) (fun k hk e' => ?_)) (by omega)
    have h1 := Kd.R_lt V4.out k e'.symm
    have h2 := hk.2.1
    omega
  · refine Kd.R_lower (Kd.R_mono (Kd.R_far (p := ⟨w.heap.size + 1, 2, none⟩) (Kd.R_far (p := ⟨w.heap.size + 1, 1, none⟩) (Kd.R_far (p := ⟨w.heap.size + 1, 0, none⟩) (Kd.R_below (Kd.R_bound V4.out) B45.out) (fun k hk => by have := hk.2.1; show k ≠ w.heap.size + 1; omega) _) (fun k hk => by have := hk.2.1; show k ≠ w.heap.size + 1; omega) _) (fun k hk => by have := hk.2.1; show k ≠ w.heap.size + 1; omega) _) (fun k hk e' => ?_)) (by omega)
    obtain ⟨inner, ho⟩ := Kd.R_own V5.out
    have h1 := own_base ho k e'.symm
    have h2 := hk.2.2.1
    omega
end Go.Proofs.Ytgnffmbaecabnaa.M
