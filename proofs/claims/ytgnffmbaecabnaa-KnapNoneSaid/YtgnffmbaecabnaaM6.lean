-- Printed by a program of this session's own (wip/myprint.py), out of the kit's print with functions given by hand. Lean checks it.
import Derived.Test.YtgnffmbaecabnaaM0
import Derived.Test.YtgnffmbaecabnaaM1
import Derived.Test.YtgnffmbaecabnaaM2
import Derived.Test.YtgnffmbaecabnaaM5
namespace Go.Proofs.Ytgnffmbaecabnaa.M
open Go.RowKit Go.Shelf Go.Proofs.YtgnffmbaecabnaaW.PrintWords Go.Proofs.YtgnffmbaecabnaaW.PrintLast Go.Proofs.YtgnffmbaecabnaaW.PrintMore
attribute [local go_sem] z33q z31q max_two min_two z28q z27q z32q z30q   -- for this text's walks alone
set_option linter.unusedVariables false
set_option linter.unusedSimpArgs false
def whole_Sign.f (k : Nat) (a0_0 : Bool) (l0_1 : List Int) : Option (Int) := (whole_Make.f k a0_0 l0_1).bind fun bt227 => (if (bt227.2.length : Int) = 0 then (some 0) else (if bt227.1 = true then (some (-1)) else (some 1)))
theorem whole_Sign.mono : ∀ a0 a1 k, LeO (whole_Sign.f k a0 a1) (whole_Sign.f (k + 1) a0 a1) := by
  intro a0 a1 k
  unfold whole_Sign.f
  repeat' first
      | (with_reducible exact whole_Make.mono _ _ _)
      | (with_reducible exact LeO.refl _)
      | (with_reducible exact LeO.none _)
      | (with_reducible refine LeO.ite ?_ ?_)
      | (with_reducible refine LeO.bind ?_ (fun _ => ?_))
      | exact whole_Make.mono _ _ _
      | exact LeO.none _
      | refine LeO.ite ?_ ?_
      | refine LeO.bind ?_ (fun _ => ?_)
set_option maxHeartbeats 8000000 in
set_option maxRecDepth 100000 in
theorem whole_Sign.calls (k : Nat) (a0_0 : Bool) (A0_1 : Option Addr) (c0_1 : Nat) (l0_1 : List Int) (r : Int) (w : World) (hr0_1 : Kd.C (Kd.int .u32) w A0_1 l0_1.length l0_1) (hc0_1 : l0_1.length ≤ c0_1) (h : whole_Sign.f k a0_0 l0_1 = some r) :
    Calls Try.prog 44 #[.agg #[.bool a0_0, .slice A0_1 l0_1.length c0_1]] w fun e w' => e = .returned (.int .i64 r) ∧ Below w.heap.size w w' := by
  have hu37 := Try.underlying37
  have HR0_1 := Aside0.mk hr0_1
  have HC0_1 := Aside0.mk hc0_1
  clear hr0_1 hc0_1
  have HB := Aside0.mk (Below.refl w.heap.size w)
  have H : ((whole_Make.f k a0_0 l0_1).bind fun bt227 => (if (bt227.2.length : Int) = 0 then (some 0) else (if bt227.1 = true then (some (-1)) else (some 1)))) = some r := h
  clear h
  replace H := Option.bind_eq_some_iff.mp H
  obtain ⟨⟨t227, t228⟩, A20, H⟩ := H
  replace H : (if (t228.length : Int) = 0 then (some 0) else (if t227 = true then (some (-1)) else (some 1))) = some r := H
  have A2 := Aside0.mk A20
  clear A20
  by_cases c3 : (t228.length : Int) = 0
  · rw [if_pos c3] at H
    have c3b0 : ((t228.length : Int) == 0) = true := beq_iff_eq.mpr c3
    have c3b1 : ((t228.length : Int) != 0) = false := bne_eq_false_iff_eq.mpr c3
    clear c3
    obtain rfl := Option.some.inj H
    go_enter Try.func44, Try.ntmps44
    go_wp2_with (first | ((with_reducible refine z18q (N := 1) rfl ?_); refine z17q ?hg (N := 1) ?hd (cs := #[.bool a0_0, .slice A0_1 l0_1.length c0_1]) (t := 37) ?hr ?_; (case hd => rfl); (case hg => rfl); (case hr => first | (go_simp; done) | (go_simp; rfl)); intro gb226 hg w4 hbox hb; have n0_ := Aside0.mk (z11q (by repeat (first | (with_reducible first | exact HB.out | apply z02q | apply z00q | apply z01q) | exact HB.out)) hb); have n1_ := Aside0.mk (hbox); have n2_ := Aside0.mk ((by rw [hg]; exact (z10q (by repeat (first | (with_reducible first | exact HB.out | apply z02q | apply z00q | apply z01q) | exact HB.out))) : w.heap.size ≤ gb226)); have n3_ := Aside0.mk ((by rw [hg]; exact (z10q (by repeat (first | (with_reducible first | exact HB.out | apply z02q | apply z00q | apply z01q) | exact HB.out))) : w.heap.size ≤ gb226)); clear HB; have HB := n0_; have BK226 := n1_; have GW226 := n2_; have GE226 := n3_; clear n0_ n1_ n2_ n3_; clear hb hbox hg; have hcz5_0 : w4.cell? ⟨gb226, 0, none⟩ = some (.bool a0_0) := (z04q BK226.out 0).trans rfl; have hcz5_1 : w4.cell? ⟨gb226, 1, none⟩ = some (.slice A0_1 l0_1.length c0_1) := (z04q BK226.out 1).trans rfl; have hfz5_0 := z08q BK226.out 0; have hfz5_1 := z08q BK226.out 1) | ((with_reducible refine z16q (f := 47) rfl ?_); refine goesL_ (some 7) rfl rfl Try.func47 (by kernel_rfl) rfl #[.bool a0_0, .slice A0_1 l0_1.length c0_1] rfl (by (try simp only [List.map_toArray, List.map_cons, List.map_nil]); first | done | rfl | (simp only [List.length_drop, List.length_take]; rfl)) ?_; (with_reducible refine (whole_Make.calls k a0_0 _ _ l0_1 t227 t228 _ ?side1 ?side2 A2.out).mono ?_); (case side1 => repeat (first | exact (Kd.C_below HR0_1.out HB.out) | (with_reducible refine Kd.C_alloc ?_ _) | (with_reducible refine Kd.C_drewN ?_ _) | (with_reducible refine Kd.C_drew ?_))); (case side2 => exact HC0_1.out); rintro e w6 ⟨v229, rfl, ho0, hb⟩; refine ⟨_, rfl, ?_⟩; have n0_ := Aside0.mk (Kd.R_lower ho0 (z10q (by repeat (first | (with_reducible first | exact HB.out | apply z02q | apply z00q | apply z01q | refine z03q ?_ GE226.out) | exact HB.out)))); have n1_ := Aside0.mk (z09q (g := gb226) (o := .cells #[.bool a0_0, .slice A0_1 l0_1.length c0_1] 37 (0, 0)) (by (with_reducible repeat (first | refine z06q ?_ _ | refine z07q ?_ | refine z05q ?_ _)); exact BK226.out) hb); have n2_ := Aside0.mk (z11q (by repeat (first | (with_reducible first | exact HB.out | apply z02q | apply z00q | apply z01q | refine z03q ?_ GE226.out) | exact HB.out)) hb); clear BK226; clear HB; have HO230 := n0_; have BK226 := n1_; have HB := n2_; clear n0_ n1_ n2_; (try clear hb); (try clear hb2); (try clear hk); (try clear hi); (try clear ho0); have hcz7_0 : w6.cell? ⟨gb226, 0, none⟩ = some (.bool a0_0) := (z04q BK226.out 0).trans rfl; have hcz7_1 : w6.cell? ⟨gb226, 1, none⟩ = some (.slice A0_1 l0_1.length c0_1) := (z04q BK226.out 1).trans rfl; have hfz7_0 := z08q BK226.out 0; have hfz7_1 := z08q BK226.out 1; obtain ⟨Ao8, co8, eo8⟩ := Kd.R_slice HO230.out; subst eo8))
    go_ret
    exact ⟨by first | rfl | (simp [z14q, z13q] <;> rfl) | (simp [*, z14q, z13q] <;> rfl), by repeat (first | (with_reducible first | exact HB.out | apply z02q | apply z00q | apply z01q | refine z03q ?_ GE226.out) | exact HB.out)⟩
  · rw [if_neg c3] at H
    have c3b0 : ((t228.length : Int) == 0) = false := beq_eq_false_iff_ne.mpr c3
    have c3b1 : ((t228.length : Int) != 0) = true := bne_iff_ne.mpr c3
    have c3b2 : ¬ (t228 = []) := fun h_ => c3 (by rw [h_]; rfl)
    by_cases c9 : t227 = true
    · subst c9
      have H1 : (some (-1)) = some r := by rw [if_pos rfl] at H; exact H
      clear H
      have H := H1
      clear H1
      obtain rfl := Option.some.inj H
      go_enter Try.func44, Try.ntmps44
      go_wp2_with (first | ((with_reducible refine z18q (N := 1) rfl ?_); refine z17q ?hg (N := 1) ?hd (cs := #[.bool a0_0, .slice A0_1 l0_1.length c0_1]) (t := 37) ?hr ?_; (case hd => rfl); (case hg => rfl); (case hr => first | (go_simp; done) | (go_simp; rfl)); intro gb226 hg w10 hbox hb; have n0_ := Aside0.mk (z11q (by repeat (first | (with_reducible first | exact HB.out | apply z02q | apply z00q | apply z01q) | exact HB.out)) hb); have n1_ := Aside0.mk (hbox); have n2_ := Aside0.mk ((by rw [hg]; exact (z10q (by repeat (first | (with_reducible first | exact HB.out | apply z02q | apply z00q | apply z01q) | exact HB.out))) : w.heap.size ≤ gb226)); have n3_ := Aside0.mk ((by rw [hg]; exact (z10q (by repeat (first | (with_reducible first | exact HB.out | apply z02q | apply z00q | apply z01q) | exact HB.out))) : w.heap.size ≤ gb226)); clear HB; have HB := n0_; have BK226 := n1_; have GW226 := n2_; have GE226 := n3_; clear n0_ n1_ n2_ n3_; clear hb hbox hg; have hcz11_0 : w10.cell? ⟨gb226, 0, none⟩ = some (.bool a0_0) := (z04q BK226.out 0).trans rfl; have hcz11_1 : w10.cell? ⟨gb226, 1, none⟩ = some (.slice A0_1 l0_1.length c0_1) := (z04q BK226.out 1).trans rfl; have hfz11_0 := z08q BK226.out 0; have hfz11_1 := z08q BK226.out 1) | ((with_reducible refine z16q (f := 47) rfl ?_); refine goesL_ (some 7) rfl rfl Try.func47 (by kernel_rfl) rfl #[.bool a0_0, .slice A0_1 l0_1.length c0_1] rfl (by (try simp only [List.map_toArray, List.map_cons, List.map_nil]); first | done | rfl | (simp only [List.length_drop, List.length_take]; rfl)) ?_; (with_reducible refine (whole_Make.calls k a0_0 _ _ l0_1 true t228 _ ?side1 ?side2 A2.out).mono ?_); (case side1 => repeat (first | exact (Kd.C_below HR0_1.out HB.out) | (with_reducible refine Kd.C_alloc ?_ _) | (with_reducible refine Kd.C_drewN ?_ _) | (with_reducible refine Kd.C_drew ?_))); (case side2 => exact HC0_1.out); rintro e w12 ⟨v229, rfl, ho0, hb⟩; refine ⟨_, rfl, ?_⟩; have n0_ := Aside0.mk (Kd.R_lower ho0 (z10q (by repeat (first | (with_reducible first | exact HB.out | apply z02q | apply z00q | apply z01q | refine z03q ?_ GE226.out) | exact HB.out)))); have n1_ := Aside0.mk (z09q (g := gb226) (o := .cells #[.bool a0_0, .slice A0_1 l0_1.length c0_1] 37 (0, 0)) (by (with_reducible repeat (first | refine z06q ?_ _ | refine z07q ?_ | refine z05q ?_ _)); exact BK226.out) hb); have n2_ := Aside0.mk (z11q (by repeat (first | (with_reducible first | exact HB.out | apply z02q | apply z00q | apply z01q | refine z03q ?_ GE226.out) | exact HB.out)) hb); clear BK226; clear HB; have HO230 := n0_; have BK226 := n1_; have HB := n2_; clear n0_ n1_ n2_; (try clear hb); (try clear hb2); (try clear hk); (try clear hi); (try clear ho0); have hcz13_0 : w12.cell? ⟨gb226, 0, none⟩ = some (.bool a0_0) := (z04q BK226.out 0).trans rfl; have hcz13_1 : w12.cell? ⟨gb226, 1, none⟩ = some (.slice A0_1 l0_1.length c0_1) := (z04q BK226.out 1).trans rfl; have hfz13_0 := z08q BK226.out 0; have hfz13_1 := z08q BK226.out 1; obtain ⟨Ao14, co14, eo14⟩ := Kd.R_slice HO230.out; subst eo14))
      go_ret
      exact ⟨by first | rfl | (simp [z14q, z13q] <;> rfl) | (simp [*, z14q, z13q] <;> rfl), by repeat (first | (with_reducible first | exact HB.out | apply z02q | apply z00q | apply z01q | refine z03q ?_ GE226.out) | exact HB.out)⟩
    · replace c9 := Bool.eq_false_iff.mpr c9
      subst c9
      have H1 : (some 1) = some r := by rw [if_neg (show ¬ (false = true) by decide)] at H; exact H
      clear H
      have H := H1
      clear H1
      obtain rfl := Option.some.inj H
      go_enter Try.func44, Try.ntmps44
      go_wp2_with (first | ((with_reducible refine z18q (N := 1) rfl ?_); refine z17q ?hg (N := 1) ?hd (cs := #[.bool a0_0, .slice A0_1 l0_1.length c0_1]) (t := 37) ?hr ?_; (case hd => rfl); (case hg => rfl); (case hr => first | (go_simp; done) | (go_simp; rfl)); intro gb226 hg w15 hbox hb; have n0_ := Aside0.mk (z11q (by repeat (first | (with_reducible first | exact HB.out | apply z02q | apply z00q | apply z01q) | exact HB.out)) hb); have n1_ := Aside0.mk (hbox); have n2_ := Aside0.mk ((by rw [hg]; exact (z10q (by repeat (first | (with_reducible first | exact HB.out | apply z02q | apply z00q | apply z01q) | exact HB.out))) : w.heap.size ≤ gb226)); have n3_ := Aside0.mk ((by rw [hg]; exact (z10q (by repeat (first | (with_reducible first | exact HB.out | apply z02q | apply z00q | apply z01q) | exact HB.out))) : w.heap.size ≤ gb226)); clear HB; have HB := n0_; have BK226 := n1_; have GW226 := n2_; have GE226 := n3_; clear n0_ n1_ n2_ n3_; clear hb hbox hg; have hcz16_0 : w15.cell? ⟨gb226, 0, none⟩ = some (.bool a0_0) := (z04q BK226.out 0).trans rfl; have hcz16_1 : w15.cell? ⟨gb226, 1, none⟩ = some (.slice A0_1 l0_1.length c0_1) := (z04q BK226.out 1).trans rfl; have hfz16_0 := z08q BK226.out 0; have hfz16_1 := z08q BK226.out 1) | ((with_reducible refine z16q (f := 47) rfl ?_); refine goesL_ (some 7) rfl rfl Try.func47 (by kernel_rfl) rfl #[.bool a0_0, .slice A0_1 l0_1.length c0_1] rfl (by (try simp only [List.map_toArray, List.map_cons, List.map_nil]); first | done | rfl | (simp only [List.length_drop, List.length_take]; rfl)) ?_; (with_reducible refine (whole_Make.calls k a0_0 _ _ l0_1 false t228 _ ?side1 ?side2 A2.out).mono ?_); (case side1 => repeat (first | exact (Kd.C_below HR0_1.out HB.out) | (with_reducible refine Kd.C_alloc ?_ _) | (with_reducible refine Kd.C_drewN ?_ _) | (with_reducible refine Kd.C_drew ?_))); (case side2 => exact HC0_1.out); rintro e w17 ⟨v229, rfl, ho0, hb⟩; refine ⟨_, rfl, ?_⟩; have n0_ := Aside0.mk (Kd.R_lower ho0 (z10q (by repeat (first | (with_reducible first | exact HB.out | apply z02q | apply z00q | apply z01q | refine z03q ?_ GE226.out) | exact HB.out)))); have n1_ := Aside0.mk (z09q (g := gb226) (o := .cells #[.bool a0_0, .slice A0_1 l0_1.length c0_1] 37 (0, 0)) (by (with_reducible repeat (first | refine z06q ?_ _ | refine z07q ?_ | refine z05q ?_ _)); exact BK226.out) hb); have n2_ := Aside0.mk (z11q (by repeat (first | (with_reducible first | exact HB.out | apply z02q | apply z00q | apply z01q | refine z03q ?_ GE226.out) | exact HB.out)) hb); clear BK226; clear HB; have HO230 := n0_; have BK226 := n1_; have HB := n2_; clear n0_ n1_ n2_; (try clear hb); (try clear hb2); (try clear hk); (try clear hi); (try clear ho0); have hcz18_0 : w17.cell? ⟨gb226, 0, none⟩ = some (.bool a0_0) := (z04q BK226.out 0).trans rfl; have hcz18_1 : w17.cell? ⟨gb226, 1, none⟩ = some (.slice A0_1 l0_1.length c0_1) := (z04q BK226.out 1).trans rfl; have hfz18_0 := z08q BK226.out 0; have hfz18_1 := z08q BK226.out 1; obtain ⟨Ao19, co19, eo19⟩ := Kd.R_slice HO230.out; subst eo19))
      go_ret
      exact ⟨by first | rfl | (simp [z14q, z13q] <;> rfl) | (simp [*, z14q, z13q] <;> rfl), by repeat (first | (with_reducible first | exact HB.out | apply z02q | apply z00q | apply z01q | refine z03q ?_ GE226.out) | exact HB.out)⟩
def whole_Compare.f (k : Nat) (a0_0 : Bool) (l0_1 : List Int) (a1_0 : Bool) (l1_1 : List Int) : Option (Int) := (whole_Sign.f k a0_0 l0_1).bind fun t233 => ((whole_Sign.f k a1_0 l1_1).bind fun t234 => (if t233 = t234 then (if t233 < 0 then ((nat_Compare.f k l1_1 l0_1).bind fun t235 => (some t235)) else ((nat_Compare.f k l0_1 l1_1).bind fun t236 => (some t236))) else (some (mn (mx (wrap64 (t233 - t234)) (-1)) 1))))
theorem whole_Compare.mono : ∀ a0 a1 a2 a3 k, LeO (whole_Compare.f k a0 a1 a2 a3) (whole_Compare.f (k + 1) a0 a1 a2 a3) := by
  intro a0 a1 a2 a3 k
  unfold whole_Compare.f
  repeat' first
      | (with_reducible exact nat_Compare.mono _ _ _)
      | (with_reducible exact whole_Sign.mono _ _ _)
      | (with_reducible exact LeO.refl _)
      | (with_reducible exact LeO.none _)
      | (with_reducible refine LeO.ite ?_ ?_)
      | (with_reducible refine LeO.bind ?_ (fun _ => ?_))
      | exact nat_Compare.mono _ _ _
      | exact whole_Sign.mono _ _ _
      | exact LeO.none _
      | refine LeO.ite ?_ ?_
      | refine LeO.bind ?_ (fun _ => ?_)
set_option maxHeartbeats 8000000 in
set_option maxRecDepth 100000 in
theorem whole_Compare.calls (k : Nat) (a0_0 : Bool) (A0_1 : Option Addr) (c0_1 : Nat) (l0_1 : List Int) (a1_0 : Bool) (A1_1 : Option Addr) (c1_1 : Nat) (l1_1 : List Int) (r : Int) (w : World) (hr0_1 : Kd.C (Kd.int .u32) w A0_1 l0_1.length l0_1) (hc0_1 : l0_1.length ≤ c0_1) (hr1_1 : Kd.C (Kd.int .u32) w A1_1 l1_1.length l1_1) (hc1_1 : l1_1.length ≤ c1_1) (h : whole_Compare.f k a0_0 l0_1 a1_0 l1_1 = some r) :
    Calls Try.prog 24 #[.agg #[.bool a0_0, .slice A0_1 l0_1.length c0_1], .agg #[.bool a1_0, .slice A1_1 l1_1.length c1_1]] w fun e w' => e = .returned (.int .i64 r) ∧ Below w.heap.size w w' := by
  have hu37 := Try.underlying37
  have HR0_1 := Aside0.mk hr0_1
  have HC0_1 := Aside0.mk hc0_1
  clear hr0_1 hc0_1
  have HR1_1 := Aside0.mk hr1_1
  have HC1_1 := Aside0.mk hc1_1
  clear hr1_1 hc1_1
  have HB := Aside0.mk (Below.refl w.heap.size w)
  have H : ((whole_Sign.f k a0_0 l0_1).bind fun t233 => ((whole_Sign.f k a1_0 l1_1).bind fun t234 => (if t233 = t234 then (if t233 < 0 then ((nat_Compare.f k l1_1 l0_1).bind fun t235 => (some t235)) else ((nat_Compare.f k l0_1 l1_1).bind fun t236 => (some t236))) else (some (mn (mx (wrap64 (t233 - t234)) (-1)) 1))))) = some r := h
  clear h
  replace H := Option.bind_eq_some_iff.mp H
  obtain ⟨t233, A30, H⟩ := H
  replace H : ((whole_Sign.f k a1_0 l1_1).bind fun t234 => (if t233 = t234 then (if t233 < 0 then ((nat_Compare.f k l1_1 l0_1).bind fun t235 => (some t235)) else ((nat_Compare.f k l0_1 l1_1).bind fun t236 => (some t236))) else (some (mn (mx (wrap64 (t233 - t234)) (-1)) 1)))) = some r := H
  have A3 := Aside0.mk A30
  clear A30
  replace H := Option.bind_eq_some_iff.mp H
  obtain ⟨t234, A40, H⟩ := H
  replace H : (if t233 = t234 then (if t233 < 0 then ((nat_Compare.f k l1_1 l0_1).bind fun t235 => (some t235)) else ((nat_Compare.f k l0_1 l1_1).bind fun t236 => (some t236))) else (some (mn (mx (wrap64 (t233 - t234)) (-1)) 1))) = some r := H
  have A4 := Aside0.mk A40
  clear A40
  by_cases c5 : t233 = t234
  · rw [if_pos c5] at H
    have c5b0 : (t233 == t234) = true := beq_iff_eq.mpr c5
    have c5b1 : (t233 != t234) = false := bne_eq_false_iff_eq.mpr c5
    clear c5
    by_cases c6 : t233 < 0
    · rw [if_pos c6] at H
      have c6b0 : decide (t233 < 0) = true := decide_eq_true c6
      clear c6
      replace H := Option.bind_eq_some_iff.mp H
      obtain ⟨t235, A70, H⟩ := H
      replace H : (some t235) = some r := H
      have A7 := Aside0.mk A70
      clear A70
      obtain rfl := Option.some.inj H
      go_enter Try.func24, Try.ntmps24
      try go_wp2_with (first | ((with_reducible refine z18q (N := 2) rfl ?_); refine z17q ?hg (N := 2) ?hd (cs := #[.bool a0_0, .slice A0_1 l0_1.length c0_1]) (t := 37) ?hr ?_; (case hd => rfl); (case hg => rfl); (case hr => first | (go_simp; done) | (go_simp; rfl)); intro gb231 hg w8 hbox hb; have n0_ := Aside0.mk (z11q (by repeat (first | (with_reducible first | exact HB.out | apply z02q | apply z00q | apply z01q) | exact HB.out)) hb); have n1_ := Aside0.mk (hbox); have n2_ := Aside0.mk ((by rw [hg]; exact (z10q (by repeat (first | (with_reducible first | exact HB.out | apply z02q | apply z00q | apply z01q) | exact HB.out))) : w.heap.size ≤ gb231)); have n3_ := Aside0.mk ((by rw [hg]; exact (z10q (by repeat (first | (with_reducible first | exact HB.out | apply z02q | apply z00q | apply z01q) | exact HB.out))) : w.heap.size ≤ gb231)); clear HB; have HB := n0_; have BK231 := n1_; have GW231 := n2_; have GE231 := n3_; clear n0_ n1_ n2_ n3_; clear hb hbox hg) | ((with_reducible refine z18q (N := 3) rfl ?_); refine z17q ?hg (N := 3) ?hd (cs := #[.bool a1_0, .slice A1_1 l1_1.length c1_1]) (t := 37) ?hr ?_; (case hd => rfl); (case hg => rfl); (case hr => first | (go_simp; done) | (go_simp; rfl)); intro gb232 hg w9 hbox hb; have n0_ := Aside0.mk (z09q (g := gb231) (o := .cells #[.bool a0_0, .slice A0_1 l0_1.length c0_1] 37 (0, 0)) (by (with_reducible repeat (first | refine z06q ?_ _ | refine z07q ?_ | refine z05q ?_ _)); exact BK231.out) hb); have n1_ := Aside0.mk (z11q (by repeat (first | (with_reducible first | exact HB.out | apply z02q | apply z00q | apply z01q | refine z03q ?_ GE231.out) | exact HB.out)) hb); have n2_ := Aside0.mk (hbox); have n3_ := Aside0.mk ((by rw [hg]; exact (z10q (by repeat (first | (with_reducible first | exact HB.out | apply z02q | apply z00q | apply z01q | refine z03q ?_ GE231.out) | exact HB.out))) : w.heap.size ≤ gb232)); have n4_ := Aside0.mk ((by rw [hg]; exact (z10q (by repeat (first | (with_reducible first | exact HB.out | apply z02q | apply z00q | apply z01q | refine z03q ?_ GE231.out) | exact HB.out))) : w.heap.size ≤ gb232)); have n5_ := Aside0.mk ((by rw [hg]; exact Nat.ne_of_lt (blk_lt (g := gb231) (o := .cells #[.bool a0_0, .slice A0_1 l0_1.length c0_1] 37 (0, 0)) (by (with_reducible repeat (first | refine z06q ?_ _ | refine z07q ?_ | refine z05q ?_ _)); exact BK231.out)) : gb231 ≠ gb232)); have n6_ := Aside0.mk ((by rw [hg]; exact Nat.ne_of_gt (blk_lt (g := gb231) (o := .cells #[.bool a0_0, .slice A0_1 l0_1.length c0_1] 37 (0, 0)) (by (with_reducible repeat (first | refine z06q ?_ _ | refine z07q ?_ | refine z05q ?_ _)); exact BK231.out)) : gb232 ≠ gb231)); clear BK231; clear HB; have BK231 := n0_; have HB := n1_; have BK232 := n2_; have GW232 := n3_; have GE232 := n4_; have NB231_232 := n5_; have NB232_231 := n6_; clear n0_ n1_ n2_ n3_ n4_ n5_ n6_; clear hb hbox hg))
      have n0_ := Aside0.mk (z07q BK231.out)
      have n1_ := Aside0.mk (z07q BK232.out)
      have n2_ := Aside0.mk (z01q HB.out)
      clear BK231
      clear BK232
      clear HB
      have BK231 := n0_
      have BK232 := n1_
      have HB := n2_
      clear n0_ n1_ n2_
      refine start_ (n := 6) (S := fun w' => w'.cell? ⟨gb231, 0, none⟩ = some (.bool a0_0) ∧ w'.cell? ⟨gb231, 1, none⟩ = some (.slice A0_1 l0_1.length c0_1) ∧ w'.cell? ⟨gb232, 0, none⟩ = some (.bool a1_0) ∧ w'.cell? ⟨gb232, 1, none⟩ = some (.slice A1_1 l1_1.length c1_1)) (ds := []) #[false, false, false, false, false, false] (by kernel_rfl) rfl rfl ⟨(z04q BK231.out 0).trans rfl, (z04q BK231.out 1).trans rfl, (z04q BK232.out 0).trans rfl, (z04q BK232.out 1).trans rfl⟩ (fun hHeld => ?_)
      generalize w9.drew = w10 at BK231 BK232 HB hHeld ⊢
      refine take_ (i := 0) (N := some 7) (v := ?_) (a' := ?_) #[true, false, false, false, false, false] rfl rfl (by kernel_rfl) (fun _ _ _ h => h) (Or.inl ⟨by rfl, ?_⟩) hHeld ?_ ?_
      rotate_left
      · rintro w' ⟨s0, s1, s2, s3⟩
        go_simp
        with_reducible rfl
      rotate_left
      · simp only [Act.put, List.setIfInBounds_toArray, List.set_cons_zero, List.set_cons_succ, i64_w, i32_w]
        rfl
      refine take_ (i := 2) (N := some 9) (v := ?_) (a' := ?_) #[true, false, true, false, false, false] rfl rfl (by kernel_rfl) (fun _ _ _ h => h) (Or.inl ⟨by rfl, ?_⟩) hHeld ?_ ?_
      rotate_left
      · rintro w' ⟨s0, s1, s2, s3⟩
        go_simp
        with_reducible rfl
      rotate_left
      · simp only [Act.put, List.setIfInBounds_toArray, List.set_cons_zero, List.set_cons_succ, i64_w, i32_w]
        rfl
      refine one_ (i := 1) (N := some 8) #[true, true, true, false, false, false] rfl rfl (by kernel_rfl) (by decide) (fun K hK => ?_)
      refine goes_ Try.func44 (by kernel_rfl) rfl #[.agg #[.bool a0_0, .slice A0_1 l0_1.length c0_1]] (by rfl) rfl rfl (by (try simp only [List.map_toArray, List.map_cons, List.map_nil]); first | done | rfl | (simp only [List.length_drop, List.length_take]; rfl)) ?_
      with_reducible refine (whole_Sign.calls k a0_0 _ _ l0_1 t233 _ ?side1 ?side2 A3.out).mono ?_
      (case side1 => repeat (first | exact (Kd.C_below HR0_1.out HB.out) | (with_reducible refine Kd.C_alloc ?_ _) | (with_reducible refine Kd.C_drewN ?_ _) | (with_reducible refine Kd.C_drew ?_)))
      (case side2 => exact HC0_1.out)
      rintro e w11 ⟨rfl, hb⟩
      refine ⟨_, rfl, ?_⟩
      have n0_ := Aside0.mk (z09q (g := gb231) (o := .cells #[.bool a0_0, .slice A0_1 l0_1.length c0_1] 37 (0, 0)) (by (with_reducible repeat (first | refine z06q ?_ _ | refine z07q ?_ | refine z05q ?_ _)); exact BK231.out) hb)
      have n1_ := Aside0.mk (z09q (g := gb232) (o := .cells #[.bool a1_0, .slice A1_1 l1_1.length c1_1] 37 (0, 0)) (by (with_reducible repeat (first | refine z06q ?_ _ | refine z07q ?_ | refine z05q ?_ _)); exact BK232.out) hb)
      have n2_ := Aside0.mk (z11q (by repeat (first | (with_reducible first | exact HB.out | apply z02q | apply z00q | apply z01q | refine z03q ?_ GE231.out | refine z03q ?_ GE232.out) | exact HB.out)) hb)
      clear BK231
      clear BK232
      clear HB
      have BK231 := n0_
      have BK232 := n1_
      have HB := n2_
      clear n0_ n1_ n2_
      (try clear hb)
      (try clear hb2)
      (try clear hk)
      (try clear hi)
      refine hK.out _ _ ⟨(z04q BK231.out 0).trans rfl, (z04q BK231.out 1).trans rfl, (z04q BK232.out 0).trans rfl, (z04q BK232.out 1).trans rfl⟩ (fun hHeld => ?_)
      clear hK K
      refine norm_ (a' := ?_) ?_ ?_
      rotate_left
      · show Act.put _ (some 8) _ = _
        simp only [Act.put, List.setIfInBounds_toArray, List.set_cons_zero, List.set_cons_succ, i64_w, i32_w]
        rfl
      refine one_ (i := 3) (N := some 10) #[true, true, true, true, false, false] rfl rfl (by kernel_rfl) (by decide) (fun K hK => ?_)
      refine goes_ Try.func44 (by kernel_rfl) rfl #[.agg #[.bool a1_0, .slice A1_1 l1_1.length c1_1]] (by rfl) rfl rfl (by (try simp only [List.map_toArray, List.map_cons, List.map_nil]); first | done | rfl | (simp only [List.length_drop, List.length_take]; rfl)) ?_
      with_reducible refine (whole_Sign.calls k a1_0 _ _ l1_1 t234 _ ?side1 ?side2 A4.out).mono ?_
      (case side1 => repeat (first | exact (Kd.C_below HR1_1.out HB.out) | (with_reducible refine Kd.C_alloc ?_ _) | (with_reducible refine Kd.C_drewN ?_ _) | (with_reducible refine Kd.C_drew ?_)))
      (case side2 => exact HC1_1.out)
      rintro e w12 ⟨rfl, hb⟩
      refine ⟨_, rfl, ?_⟩
      have n0_ := Aside0.mk (z09q (g := gb231) (o := .cells #[.bool a0_0, .slice A0_1 l0_1.length c0_1] 37 (0, 0)) (by (with_reducible repeat (first | refine z06q ?_ _ | refine z07q ?_ | refine z05q ?_ _)); exact BK231.out) hb)
      have n1_ := Aside0.mk (z09q (g := gb232) (o := .cells #[.bool a1_0, .slice A1_1 l1_1.length c1_1] 37 (0, 0)) (by (with_reducible repeat (first | refine z06q ?_ _ | refine z07q ?_ | refine z05q ?_ _)); exact BK232.out) hb)
      have n2_ := Aside0.mk (z11q (by repeat (first | (with_reducible first | exact HB.out | apply z02q | apply z00q | apply z01q | refine z03q ?_ GE231.out | refine z03q ?_ GE232.out) | exact HB.out)) hb)
      clear BK231
      clear BK232
      clear HB
      have BK231 := n0_
      have BK232 := n1_
      have HB := n2_
      clear n0_ n1_ n2_
      (try clear hb)
      (try clear hb2)
      (try clear hk)
      (try clear hi)
      refine hK.out _ _ ⟨(z04q BK231.out 0).trans rfl, (z04q BK231.out 1).trans rfl, (z04q BK232.out 0).trans rfl, (z04q BK232.out 1).trans rfl⟩ (fun hHeld => ?_)
      clear hK K
      refine norm_ (a' := ?_) ?_ ?_
      rotate_left
      · show Act.put _ (some 10) _ = _
        simp only [Act.put, List.setIfInBounds_toArray, List.set_cons_zero, List.set_cons_succ, i64_w, i32_w]
        rfl
      refine pure_ (i := 4) (N := some 5) (v := ?_) (a' := ?_) #[true, true, true, true, true, false] rfl rfl (by kernel_rfl) (fun _ _ _ h => h) (Or.inl ⟨by rfl, ?_⟩) ?_ ?_
      rotate_left
      · intro w'
        go_simp
        with_reducible rfl
      rotate_left
      · simp only [Act.put, List.setIfInBounds_toArray, List.set_cons_zero, List.set_cons_succ, i64_w, i32_w]
        rfl
      refine pure_ (i := 5) (N := some 6) (v := ?_) (a' := ?_) #[true, true, true, true, true, true] rfl rfl (by kernel_rfl) (fun _ _ _ h => h) (Or.inl ⟨by rfl, ?_⟩) ?_ ?_
      rotate_left
      · intro w'
        go_simp
        with_reducible rfl
      rotate_left
      · simp only [Act.put, List.setIfInBounds_toArray, List.set_cons_zero, List.set_cons_succ, i64_w, i32_w]
        rfl
      refine done_ (by kernel_rfl) ?_
      have hnb13 := NB232_231.out
      have hnc13 := NB231_232.out
      have hcz14_0 : w12.cell? ⟨gb232, 0, none⟩ = some (.bool a1_0) := (z04q BK232.out 0).trans rfl
      have hcz14_1 : w12.cell? ⟨gb232, 1, none⟩ = some (.slice A1_1 l1_1.length c1_1) := (z04q BK232.out 1).trans rfl
      have hfz14_0 := z08q BK232.out 0
      have hfz14_1 := z08q BK232.out 1
      have hcz15_0 : w12.cell? ⟨gb231, 0, none⟩ = some (.bool a0_0) := (z04q BK231.out 0).trans rfl
      have hcz15_1 : w12.cell? ⟨gb231, 1, none⟩ = some (.slice A0_1 l0_1.length c0_1) := (z04q BK231.out 1).trans rfl
      have hfz15_0 := z08q BK231.out 0
      have hfz15_1 := z08q BK231.out 1
      try go_wp2_with (first | ((with_reducible refine z16q (f := 45) rfl ?_); refine goesL_ (some 25) rfl rfl Try.func45 (by kernel_rfl) rfl #[.slice A1_1 l1_1.length c1_1, .slice A0_1 l0_1.length c0_1] rfl (by (try simp only [List.map_toArray, List.map_cons, List.map_nil]); first | done | rfl | (simp only [List.length_drop, List.length_take]; rfl)) ?_; (with_reducible refine (nat_Compare.calls k _ _ l1_1 _ _ l0_1 t235 _ ?side1 ?side2 ?side3 ?side4 A7.out).mono ?_); (case side1 => repeat (first | exact (Kd.C_below HR1_1.out HB.out) | (with_reducible refine Kd.C_alloc ?_ _) | (with_reducible refine Kd.C_drewN ?_ _) | (with_reducible refine Kd.C_drew ?_))); (case side2 => exact HC1_1.out); (case side3 => repeat (first | exact (Kd.C_below HR0_1.out HB.out) | (with_reducible refine Kd.C_alloc ?_ _) | (with_reducible refine Kd.C_drewN ?_ _) | (with_reducible refine Kd.C_drew ?_))); (case side4 => exact HC0_1.out); rintro e w16 ⟨rfl, hb⟩; refine ⟨_, rfl, ?_⟩; have n0_ := Aside0.mk (z09q (g := gb231) (o := .cells #[.bool a0_0, .slice A0_1 l0_1.length c0_1] 37 (0, 0)) (by (with_reducible repeat (first | refine z06q ?_ _ | refine z07q ?_ | refine z05q ?_ _)); exact BK231.out) hb); have n1_ := Aside0.mk (z09q (g := gb232) (o := .cells #[.bool a1_0, .slice A1_1 l1_1.length c1_1] 37 (0, 0)) (by (with_reducible repeat (first | refine z06q ?_ _ | refine z07q ?_ | refine z05q ?_ _)); exact BK232.out) hb); have n2_ := Aside0.mk (z11q (by repeat (first | (with_reducible first | exact HB.out | apply z02q | apply z00q | apply z01q | refine z03q ?_ GE231.out | refine z03q ?_ GE232.out) | exact HB.out)) hb); clear BK231; clear BK232; clear HB; have BK231 := n0_; have BK232 := n1_; have HB := n2_; clear n0_ n1_ n2_; (try clear hb); (try clear hb2); (try clear hk); (try clear hi)))
      go_ret
      exact ⟨by first | rfl | (simp [z14q, z13q] <;> rfl) | (simp [*, z14q, z13q] <;> rfl), by repeat (first | (with_reducible first | exact HB.out | apply z02q | apply z00q | apply z01q | refine z03q ?_ GE231.out | refine z03q ?_ GE232.out) | exact HB.out)⟩
    · rw [if_neg c6] at H
      have c6b0 : decide (t233 < 0) = false := decide_eq_false c6
      clear c6
      replace H := Option.bind_eq_some_iff.mp H
      obtain ⟨t236, A170, H⟩ := H
      replace H : (some t236) = some r := H
      have A17 := Aside0.mk A170
      clear A170
      obtain rfl := Option.some.inj H
      go_enter Try.func24, Try.ntmps24
      try go_wp2_with (first | ((with_reducible refine z18q (N := 2) rfl ?_); refine z17q ?hg (N := 2) ?hd (cs := #[.bool a0_0, .slice A0_1 l0_1.length c0_1]) (t := 37) ?hr ?_; (case hd => rfl); (case hg => rfl); (case hr => first | (go_simp; done) | (go_simp; rfl)); intro gb231 hg w18 hbox hb; have n0_ := Aside0.mk (z11q (by repeat (first | (with_reducible first | exact HB.out | apply z02q | apply z00q | apply z01q) | exact HB.out)) hb); have n1_ := Aside0.mk (hbox); have n2_ := Aside0.mk ((by rw [hg]; exact (z10q (by repeat (first | (with_reducible first | exact HB.out | apply z02q | apply z00q | apply z01q) | exact HB.out))) : w.heap.size ≤ gb231)); have n3_ := Aside0.mk ((by rw [hg]; exact (z10q (by repeat (first | (with_reducible first | exact HB.out | apply z02q | apply z00q | apply z01q) | exact HB.out))) : w.heap.size ≤ gb231)); clear HB; have HB := n0_; have BK231 := n1_; have GW231 := n2_; have GE231 := n3_; clear n0_ n1_ n2_ n3_; clear hb hbox hg) | ((with_reducible refine z18q (N := 3) rfl ?_); refine z17q ?hg (N := 3) ?hd (cs := #[.bool a1_0, .slice A1_1 l1_1.length c1_1]) (t := 37) ?hr ?_; (case hd => rfl); (case hg => rfl); (case hr => first | (go_simp; done) | (go_simp; rfl)); intro gb232 hg w19 hbox hb; have n0_ := Aside0.mk (z09q (g := gb231) (o := .cells #[.bool a0_0, .slice A0_1 l0_1.length c0_1] 37 (0, 0)) (by (with_reducible repeat (first | refine z06q ?_ _ | refine z07q ?_ | refine z05q ?_ _)); exact BK231.out) hb); have n1_ := Aside0.mk (z11q (by repeat (first | (with_reducible first | exact HB.out | apply z02q | apply z00q | apply z01q | refine z03q ?_ GE231.out) | exact HB.out)) hb); have n2_ := Aside0.mk (hbox); have n3_ := Aside0.mk ((by rw [hg]; exact (z10q (by repeat (first | (with_reducible first | exact HB.out | apply z02q | apply z00q | apply z01q | refine z03q ?_ GE231.out) | exact HB.out))) : w.heap.size ≤ gb232)); have n4_ := Aside0.mk ((by rw [hg]; exact (z10q (by repeat (first | (with_reducible first | exact HB.out | apply z02q | apply z00q | apply z01q | refine z03q ?_ GE231.out) | exact HB.out))) : w.heap.size ≤ gb232)); have n5_ := Aside0.mk ((by rw [hg]; exact Nat.ne_of_lt (blk_lt (g := gb231) (o := .cells #[.bool a0_0, .slice A0_1 l0_1.length c0_1] 37 (0, 0)) (by (with_reducible repeat (first | refine z06q ?_ _ | refine z07q ?_ | refine z05q ?_ _)); exact BK231.out)) : gb231 ≠ gb232)); have n6_ := Aside0.mk ((by rw [hg]; exact Nat.ne_of_gt (blk_lt (g := gb231) (o := .cells #[.bool a0_0, .slice A0_1 l0_1.length c0_1] 37 (0, 0)) (by (with_reducible repeat (first | refine z06q ?_ _ | refine z07q ?_ | refine z05q ?_ _)); exact BK231.out)) : gb232 ≠ gb231)); clear BK231; clear HB; have BK231 := n0_; have HB := n1_; have BK232 := n2_; have GW232 := n3_; have GE232 := n4_; have NB231_232 := n5_; have NB232_231 := n6_; clear n0_ n1_ n2_ n3_ n4_ n5_ n6_; clear hb hbox hg))
      have n0_ := Aside0.mk (z07q BK231.out)
      have n1_ := Aside0.mk (z07q BK232.out)
      have n2_ := Aside0.mk (z01q HB.out)
      clear BK231
      clear BK232
      clear HB
      have BK231 := n0_
      have BK232 := n1_
      have HB := n2_
      clear n0_ n1_ n2_
      refine start_ (n := 6) (S := fun w' => w'.cell? ⟨gb231, 0, none⟩ = some (.bool a0_0) ∧ w'.cell? ⟨gb231, 1, none⟩ = some (.slice A0_1 l0_1.length c0_1) ∧ w'.cell? ⟨gb232, 0, none⟩ = some (.bool a1_0) ∧ w'.cell? ⟨gb232, 1, none⟩ = some (.slice A1_1 l1_1.length c1_1)) (ds := []) #[false, false, false, false, false, false] (by kernel_rfl) rfl rfl ⟨(z04q BK231.out 0).trans rfl, (z04q BK231.out 1).trans rfl, (z04q BK232.out 0).trans rfl, (z04q BK232.out 1).trans rfl⟩ (fun hHeld => ?_)
      generalize w19.drew = w20 at BK231 BK232 HB hHeld ⊢
      refine take_ (i := 0) (N := some 7) (v := ?_) (a' := ?_) #[true, false, false, false, false, false] rfl rfl (by kernel_rfl) (fun _ _ _ h => h) (Or.inl ⟨by rfl, ?_⟩) hHeld ?_ ?_
      rotate_left
      · rintro w' ⟨s0, s1, s2, s3⟩
        go_simp
        with_reducible rfl
      rotate_left
      · simp only [Act.put, List.setIfInBounds_toArray, List.set_cons_zero, List.set_cons_succ, i64_w, i32_w]
        rfl
      refine take_ (i := 2) (N := some 9) (v := ?_) (a' := ?_) #[true, false, true, false, false, false] rfl rfl (by kernel_rfl) (fun _ _ _ h => h) (Or.inl ⟨by rfl, ?_⟩) hHeld ?_ ?_
      rotate_left
      · rintro w' ⟨s0, s1, s2, s3⟩
        go_simp
        with_reducible rfl
      rotate_left
      · simp only [Act.put, List.setIfInBounds_toArray, List.set_cons_zero, List.set_cons_succ, i64_w, i32_w]
        rfl
      refine one_ (i := 1) (N := some 8) #[true, true, true, false, false, false] rfl rfl (by kernel_rfl) (by decide) (fun K hK => ?_)
      refine goes_ Try.func44 (by kernel_rfl) rfl #[.agg #[.bool a0_0, .slice A0_1 l0_1.length c0_1]] (by rfl) rfl rfl (by (try simp only [List.map_toArray, List.map_cons, List.map_nil]); first | done | rfl | (simp only [List.length_drop, List.length_take]; rfl)) ?_
      with_reducible refine (whole_Sign.calls k a0_0 _ _ l0_1 t233 _ ?side1 ?side2 A3.out).mono ?_
      (case side1 => repeat (first | exact (Kd.C_below HR0_1.out HB.out) | (with_reducible refine Kd.C_alloc ?_ _) | (with_reducible refine Kd.C_drewN ?_ _) | (with_reducible refine Kd.C_drew ?_)))
      (case side2 => exact HC0_1.out)
      rintro e w21 ⟨rfl, hb⟩
      refine ⟨_, rfl, ?_⟩
      have n0_ := Aside0.mk (z09q (g := gb231) (o := .cells #[.bool a0_0, .slice A0_1 l0_1.length c0_1] 37 (0, 0)) (by (with_reducible repeat (first | refine z06q ?_ _ | refine z07q ?_ | refine z05q ?_ _)); exact BK231.out) hb)
      have n1_ := Aside0.mk (z09q (g := gb232) (o := .cells #[.bool a1_0, .slice A1_1 l1_1.length c1_1] 37 (0, 0)) (by (with_reducible repeat (first | refine z06q ?_ _ | refine z07q ?_ | refine z05q ?_ _)); exact BK232.out) hb)
      have n2_ := Aside0.mk (z11q (by repeat (first | (with_reducible first | exact HB.out | apply z02q | apply z00q | apply z01q | refine z03q ?_ GE231.out | refine z03q ?_ GE232.out) | exact HB.out)) hb)
      clear BK231
      clear BK232
      clear HB
      have BK231 := n0_
      have BK232 := n1_
      have HB := n2_
      clear n0_ n1_ n2_
      (try clear hb)
      (try clear hb2)
      (try clear hk)
      (try clear hi)
      refine hK.out _ _ ⟨(z04q BK231.out 0).trans rfl, (z04q BK231.out 1).trans rfl, (z04q BK232.out 0).trans rfl, (z04q BK232.out 1).trans rfl⟩ (fun hHeld => ?_)
      clear hK K
      refine norm_ (a' := ?_) ?_ ?_
      rotate_left
      · show Act.put _ (some 8) _ = _
        simp only [Act.put, List.setIfInBounds_toArray, List.set_cons_zero, List.set_cons_succ, i64_w, i32_w]
        rfl
      refine one_ (i := 3) (N := some 10) #[true, true, true, true, false, false] rfl rfl (by kernel_rfl) (by decide) (fun K hK => ?_)
      refine goes_ Try.func44 (by kernel_rfl) rfl #[.agg #[.bool a1_0, .slice A1_1 l1_1.length c1_1]] (by rfl) rfl rfl (by (try simp only [List.map_toArray, List.map_cons, List.map_nil]); first | done | rfl | (simp only [List.length_drop, List.length_take]; rfl)) ?_
      with_reducible refine (whole_Sign.calls k a1_0 _ _ l1_1 t234 _ ?side1 ?side2 A4.out).mono ?_
      (case side1 => repeat (first | exact (Kd.C_below HR1_1.out HB.out) | (with_reducible refine Kd.C_alloc ?_ _) | (with_reducible refine Kd.C_drewN ?_ _) | (with_reducible refine Kd.C_drew ?_)))
      (case side2 => exact HC1_1.out)
      rintro e w22 ⟨rfl, hb⟩
      refine ⟨_, rfl, ?_⟩
      have n0_ := Aside0.mk (z09q (g := gb231) (o := .cells #[.bool a0_0, .slice A0_1 l0_1.length c0_1] 37 (0, 0)) (by (with_reducible repeat (first | refine z06q ?_ _ | refine z07q ?_ | refine z05q ?_ _)); exact BK231.out) hb)
      have n1_ := Aside0.mk (z09q (g := gb232) (o := .cells #[.bool a1_0, .slice A1_1 l1_1.length c1_1] 37 (0, 0)) (by (with_reducible repeat (first | refine z06q ?_ _ | refine z07q ?_ | refine z05q ?_ _)); exact BK232.out) hb)
      have n2_ := Aside0.mk (z11q (by repeat (first | (with_reducible first | exact HB.out | apply z02q | apply z00q | apply z01q | refine z03q ?_ GE231.out | refine z03q ?_ GE232.out) | exact HB.out)) hb)
      clear BK231
      clear BK232
      clear HB
      have BK231 := n0_
      have BK232 := n1_
      have HB := n2_
      clear n0_ n1_ n2_
      (try clear hb)
      (try clear hb2)
      (try clear hk)
      (try clear hi)
      refine hK.out _ _ ⟨(z04q BK231.out 0).trans rfl, (z04q BK231.out 1).trans rfl, (z04q BK232.out 0).trans rfl, (z04q BK232.out 1).trans rfl⟩ (fun hHeld => ?_)
      clear hK K
      refine norm_ (a' := ?_) ?_ ?_
      rotate_left
      · show Act.put _ (some 10) _ = _
        simp only [Act.put, List.setIfInBounds_toArray, List.set_cons_zero, List.set_cons_succ, i64_w, i32_w]
        rfl
      refine pure_ (i := 4) (N := some 5) (v := ?_) (a' := ?_) #[true, true, true, true, true, false] rfl rfl (by kernel_rfl) (fun _ _ _ h => h) (Or.inl ⟨by rfl, ?_⟩) ?_ ?_
      rotate_left
      · intro w'
        go_simp
        with_reducible rfl
      rotate_left
      · simp only [Act.put, List.setIfInBounds_toArray, List.set_cons_zero, List.set_cons_succ, i64_w, i32_w]
        rfl
      refine pure_ (i := 5) (N := some 6) (v := ?_) (a' := ?_) #[true, true, true, true, true, true] rfl rfl (by kernel_rfl) (fun _ _ _ h => h) (Or.inl ⟨by rfl, ?_⟩) ?_ ?_
      rotate_left
      · intro w'
        go_simp
        with_reducible rfl
      rotate_left
      · simp only [Act.put, List.setIfInBounds_toArray, List.set_cons_zero, List.set_cons_succ, i64_w, i32_w]
        rfl
      refine done_ (by kernel_rfl) ?_
      have hnb23 := NB231_232.out
      have hnc23 := NB232_231.out
      have hcz24_0 : w22.cell? ⟨gb231, 0, none⟩ = some (.bool a0_0) := (z04q BK231.out 0).trans rfl
      have hcz24_1 : w22.cell? ⟨gb231, 1, none⟩ = some (.slice A0_1 l0_1.length c0_1) := (z04q BK231.out 1).trans rfl
      have hfz24_0 := z08q BK231.out 0
      have hfz24_1 := z08q BK231.out 1
      have hcz25_0 : w22.cell? ⟨gb232, 0, none⟩ = some (.bool a1_0) := (z04q BK232.out 0).trans rfl
      have hcz25_1 : w22.cell? ⟨gb232, 1, none⟩ = some (.slice A1_1 l1_1.length c1_1) := (z04q BK232.out 1).trans rfl
      have hfz25_0 := z08q BK232.out 0
      have hfz25_1 := z08q BK232.out 1
      try go_wp2_with (first | ((with_reducible refine z16q (f := 45) rfl ?_); refine goesL_ (some 30) rfl rfl Try.func45 (by kernel_rfl) rfl #[.slice A0_1 l0_1.length c0_1, .slice A1_1 l1_1.length c1_1] rfl (by (try simp only [List.map_toArray, List.map_cons, List.map_nil]); first | done | rfl | (simp only [List.length_drop, List.length_take]; rfl)) ?_; (with_reducible refine (nat_Compare.calls k _ _ l0_1 _ _ l1_1 t236 _ ?side1 ?side2 ?side3 ?side4 A17.out).mono ?_); (case side1 => repeat (first | exact (Kd.C_below HR0_1.out HB.out) | (with_reducible refine Kd.C_alloc ?_ _) | (with_reducible refine Kd.C_drewN ?_ _) | (with_reducible refine Kd.C_drew ?_))); (case side2 => exact HC0_1.out); (case side3 => repeat (first | exact (Kd.C_below HR1_1.out HB.out) | (with_reducible refine Kd.C_alloc ?_ _) | (with_reducible refine Kd.C_drewN ?_ _) | (with_reducible refine Kd.C_drew ?_))); (case side4 => exact HC1_1.out); rintro e w26 ⟨rfl, hb⟩; refine ⟨_, rfl, ?_⟩; have n0_ := Aside0.mk (z09q (g := gb231) (o := .cells #[.bool a0_0, .slice A0_1 l0_1.length c0_1] 37 (0, 0)) (by (with_reducible repeat (first | refine z06q ?_ _ | refine z07q ?_ | refine z05q ?_ _)); exact BK231.out) hb); have n1_ := Aside0.mk (z09q (g := gb232) (o := .cells #[.bool a1_0, .slice A1_1 l1_1.length c1_1] 37 (0, 0)) (by (with_reducible repeat (first | refine z06q ?_ _ | refine z07q ?_ | refine z05q ?_ _)); exact BK232.out) hb); have n2_ := Aside0.mk (z11q (by repeat (first | (with_reducible first | exact HB.out | apply z02q | apply z00q | apply z01q | refine z03q ?_ GE231.out | refine z03q ?_ GE232.out) | exact HB.out)) hb); clear BK231; clear BK232; clear HB; have BK231 := n0_; have BK232 := n1_; have HB := n2_; clear n0_ n1_ n2_; (try clear hb); (try clear hb2); (try clear hk); (try clear hi)))
      go_ret
      exact ⟨by first | rfl | (simp [z14q, z13q] <;> rfl) | (simp [*, z14q, z13q] <;> rfl), by repeat (first | (with_reducible first | exact HB.out | apply z02q | apply z00q | apply z01q | refine z03q ?_ GE231.out | refine z03q ?_ GE232.out) | exact HB.out)⟩
  · rw [if_neg c5] at H
    have c5b0 : (t233 == t234) = false := beq_eq_false_iff_ne.mpr c5
    have c5b1 : (t233 != t234) = true := bne_iff_ne.mpr c5
    obtain ⟨ji27, hji27⟩ : ∃ j_ : Int, (mx (wrap64 (t233 - t234)) (-1)) = j_ := ⟨_, rfl⟩
    replace H : (some (mn (ji27) 1)) = some r := by first | (rw [hji27] at H; exact H) | (simp only [hji27] at H ⊢; exact H)
    (try rw [hji27] at A3)
    (try rw [hji27] at A4)
    have hji27_ : (if (wrap64 (t233 - t234)) < (-1) then (-1) else (wrap64 (t233 - t234))) = ji27 := hji27
    obtain ⟨ji28, hji28⟩ : ∃ j_ : Int, (mn (ji27) 1) = j_ := ⟨_, rfl⟩
    replace H : (some ji28) = some r := by first | (rw [hji28] at H; exact H) | (simp only [hji28] at H ⊢; exact H)
    (try rw [hji28] at A3)
    (try rw [hji28] at A4)
    have hji28_ : (if 1 < (ji27) then 1 else (ji27)) = ji28 := hji28
    obtain rfl := Option.some.inj H
    go_enter Try.func24, Try.ntmps24
    try go_wp2_with (first | ((with_reducible refine z18q (N := 2) rfl ?_); refine z17q ?hg (N := 2) ?hd (cs := #[.bool a0_0, .slice A0_1 l0_1.length c0_1]) (t := 37) ?hr ?_; (case hd => rfl); (case hg => rfl); (case hr => first | (go_simp; done) | (go_simp; rfl)); intro gb231 hg w29 hbox hb; have n0_ := Aside0.mk (z11q (by repeat (first | (with_reducible first | exact HB.out | apply z02q | apply z00q | apply z01q) | exact HB.out)) hb); have n1_ := Aside0.mk (hbox); have n2_ := Aside0.mk ((by rw [hg]; exact (z10q (by repeat (first | (with_reducible first | exact HB.out | apply z02q | apply z00q | apply z01q) | exact HB.out))) : w.heap.size ≤ gb231)); have n3_ := Aside0.mk ((by rw [hg]; exact (z10q (by repeat (first | (with_reducible first | exact HB.out | apply z02q | apply z00q | apply z01q) | exact HB.out))) : w.heap.size ≤ gb231)); clear HB; have HB := n0_; have BK231 := n1_; have GW231 := n2_; have GE231 := n3_; clear n0_ n1_ n2_ n3_; clear hb hbox hg) | ((with_reducible refine z18q (N := 3) rfl ?_); refine z17q ?hg (N := 3) ?hd (cs := #[.bool a1_0, .slice A1_1 l1_1.length c1_1]) (t := 37) ?hr ?_; (case hd => rfl); (case hg => rfl); (case hr => first | (go_simp; done) | (go_simp; rfl)); intro gb232 hg w30 hbox hb; have n0_ := Aside0.mk (z09q (g := gb231) (o := .cells #[.bool a0_0, .slice A0_1 l0_1.length c0_1] 37 (0, 0)) (by (with_reducible repeat (first | refine z06q ?_ _ | refine z07q ?_ | refine z05q ?_ _)); exact BK231.out) hb); have n1_ := Aside0.mk (z11q (by repeat (first | (with_reducible first | exact HB.out | apply z02q | apply z00q | apply z01q | refine z03q ?_ GE231.out) | exact HB.out)) hb); have n2_ := Aside0.mk (hbox); have n3_ := Aside0.mk ((by rw [hg]; exact (z10q (by repeat (first | (with_reducible first | exact HB.out | apply z02q | apply z00q | apply z01q | refine z03q ?_ GE231.out) | exact HB.out))) : w.heap.size ≤ gb232)); have n4_ := Aside0.mk ((by rw [hg]; exact (z10q (by repeat (first | (with_reducible first | exact HB.out | apply z02q | apply z00q | apply z01q | refine z03q ?_ GE231.out) | exact HB.out))) : w.heap.size ≤ gb232)); have n5_ := Aside0.mk ((by rw [hg]; exact Nat.ne_of_lt (blk_lt (g := gb231) (o := .cells #[.bool a0_0, .slice A0_1 l0_1.length c0_1] 37 (0, 0)) (by (with_reducible repeat (first | refine z06q ?_ _ | refine z07q ?_ | refine z05q ?_ _)); exact BK231.out)) : gb231 ≠ gb232)); have n6_ := Aside0.mk ((by rw [hg]; exact Nat.ne_of_gt (blk_lt (g := gb231) (o := .cells #[.bool a0_0, .slice A0_1 l0_1.length c0_1] 37 (0, 0)) (by (with_reducible repeat (first | refine z06q ?_ _ | refine z07q ?_ | refine z05q ?_ _)); exact BK231.out)) : gb232 ≠ gb231)); clear BK231; clear HB; have BK231 := n0_; have HB := n1_; have BK232 := n2_; have GW232 := n3_; have GE232 := n4_; have NB231_232 := n5_; have NB232_231 := n6_; clear n0_ n1_ n2_ n3_ n4_ n5_ n6_; clear hb hbox hg))
    have n0_ := Aside0.mk (z07q BK231.out)
    have n1_ := Aside0.mk (z07q BK232.out)
    have n2_ := Aside0.mk (z01q HB.out)
    clear BK231
    clear BK232
    clear HB
    have BK231 := n0_
    have BK232 := n1_
    have HB := n2_
    clear n0_ n1_ n2_
    refine start_ (n := 6) (S := fun w' => w'.cell? ⟨gb231, 0, none⟩ = some (.bool a0_0) ∧ w'.cell? ⟨gb231, 1, none⟩ = some (.slice A0_1 l0_1.length c0_1) ∧ w'.cell? ⟨gb232, 0, none⟩ = some (.bool a1_0) ∧ w'.cell? ⟨gb232, 1, none⟩ = some (.slice A1_1 l1_1.length c1_1)) (ds := []) #[false, false, false, false, false, false] (by kernel_rfl) rfl rfl ⟨(z04q BK231.out 0).trans rfl, (z04q BK231.out 1).trans rfl, (z04q BK232.out 0).trans rfl, (z04q BK232.out 1).trans rfl⟩ (fun hHeld => ?_)
    generalize w30.drew = w31 at BK231 BK232 HB hHeld ⊢
    refine take_ (i := 0) (N := some 7) (v := ?_) (a' := ?_) #[true, false, false, false, false, false] rfl rfl (by kernel_rfl) (fun _ _ _ h => h) (Or.inl ⟨by rfl, ?_⟩) hHeld ?_ ?_
    rotate_left
    · rintro w' ⟨s0, s1, s2, s3⟩
      go_simp
      with_reducible rfl
    rotate_left
    · simp only [Act.put, List.setIfInBounds_toArray, List.set_cons_zero, List.set_cons_succ, i64_w, i32_w]
      rfl
    refine take_ (i := 2) (N := some 9) (v := ?_) (a' := ?_) #[true, false, true, false, false, false] rfl rfl (by kernel_rfl) (fun _ _ _ h => h) (Or.inl ⟨by rfl, ?_⟩) hHeld ?_ ?_
    rotate_left
    · rintro w' ⟨s0, s1, s2, s3⟩
      go_simp
      with_reducible rfl
    rotate_left
    · simp only [Act.put, List.setIfInBounds_toArray, List.set_cons_zero, List.set_cons_succ, i64_w, i32_w]
      rfl
    refine one_ (i := 1) (N := some 8) #[true, true, true, false, false, false] rfl rfl (by kernel_rfl) (by decide) (fun K hK => ?_)
    refine goes_ Try.func44 (by kernel_rfl) rfl #[.agg #[.bool a0_0, .slice A0_1 l0_1.length c0_1]] (by rfl) rfl rfl (by (try simp only [List.map_toArray, List.map_cons, List.map_nil]); first | done | rfl | (simp only [List.length_drop, List.length_take]; rfl)) ?_
    with_reducible refine (whole_Sign.calls k a0_0 _ _ l0_1 t233 _ ?side1 ?side2 A3.out).mono ?_
    (case side1 => repeat (first | exact (Kd.C_below HR0_1.out HB.out) | (with_reducible refine Kd.C_alloc ?_ _) | (with_reducible refine Kd.C_drewN ?_ _) | (with_reducible refine Kd.C_drew ?_)))
    (case side2 => exact HC0_1.out)
    rintro e w32 ⟨rfl, hb⟩
    refine ⟨_, rfl, ?_⟩
    have n0_ := Aside0.mk (z09q (g := gb231) (o := .cells #[.bool a0_0, .slice A0_1 l0_1.length c0_1] 37 (0, 0)) (by (with_reducible repeat (first | refine z06q ?_ _ | refine z07q ?_ | refine z05q ?_ _)); exact BK231.out) hb)
    have n1_ := Aside0.mk (z09q (g := gb232) (o := .cells #[.bool a1_0, .slice A1_1 l1_1.length c1_1] 37 (0, 0)) (by (with_reducible repeat (first | refine z06q ?_ _ | refine z07q ?_ | refine z05q ?_ _)); exact BK232.out) hb)
    have n2_ := Aside0.mk (z11q (by repeat (first | (with_reducible first | exact HB.out | apply z02q | apply z00q | apply z01q | refine z03q ?_ GE231.out | refine z03q ?_ GE232.out) | exact HB.out)) hb)
    clear BK231
    clear BK232
    clear HB
    have BK231 := n0_
    have BK232 := n1_
    have HB := n2_
    clear n0_ n1_ n2_
    (try clear hb)
    (try clear hb2)
    (try clear hk)
    (try clear hi)
    refine hK.out _ _ ⟨(z04q BK231.out 0).trans rfl, (z04q BK231.out 1).trans rfl, (z04q BK232.out 0).trans rfl, (z04q BK232.out 1).trans rfl⟩ (fun hHeld => ?_)
    clear hK K
    refine norm_ (a' := ?_) ?_ ?_
    rotate_left
    · show Act.put _ (some 8) _ = _
      simp only [Act.put, List.setIfInBounds_toArray, List.set_cons_zero, List.set_cons_succ, i64_w, i32_w]
      rfl
    refine one_ (i := 3) (N := some 10) #[true, true, true, true, false, false] rfl rfl (by kernel_rfl) (by decide) (fun K hK => ?_)
    refine goes_ Try.func44 (by kernel_rfl) rfl #[.agg #[.bool a1_0, .slice A1_1 l1_1.length c1_1]] (by rfl) rfl rfl (by (try simp only [List.map_toArray, List.map_cons, List.map_nil]); first | done | rfl | (simp only [List.length_drop, List.length_take]; rfl)) ?_
    with_reducible refine (whole_Sign.calls k a1_0 _ _ l1_1 t234 _ ?side1 ?side2 A4.out).mono ?_
    (case side1 => repeat (first | exact (Kd.C_below HR1_1.out HB.out) | (with_reducible refine Kd.C_alloc ?_ _) | (with_reducible refine Kd.C_drewN ?_ _) | (with_reducible refine Kd.C_drew ?_)))
    (case side2 => exact HC1_1.out)
    rintro e w33 ⟨rfl, hb⟩
    refine ⟨_, rfl, ?_⟩
    have n0_ := Aside0.mk (z09q (g := gb231) (o := .cells #[.bool a0_0, .slice A0_1 l0_1.length c0_1] 37 (0, 0)) (by (with_reducible repeat (first | refine z06q ?_ _ | refine z07q ?_ | refine z05q ?_ _)); exact BK231.out) hb)
    have n1_ := Aside0.mk (z09q (g := gb232) (o := .cells #[.bool a1_0, .slice A1_1 l1_1.length c1_1] 37 (0, 0)) (by (with_reducible repeat (first | refine z06q ?_ _ | refine z07q ?_ | refine z05q ?_ _)); exact BK232.out) hb)
    have n2_ := Aside0.mk (z11q (by repeat (first | (with_reducible first | exact HB.out | apply z02q | apply z00q | apply z01q | refine z03q ?_ GE231.out | refine z03q ?_ GE232.out) | exact HB.out)) hb)
    clear BK231
    clear BK232
    clear HB
    have BK231 := n0_
    have BK232 := n1_
    have HB := n2_
    clear n0_ n1_ n2_
    (try clear hb)
    (try clear hb2)
    (try clear hk)
    (try clear hi)
    refine hK.out _ _ ⟨(z04q BK231.out 0).trans rfl, (z04q BK231.out 1).trans rfl, (z04q BK232.out 0).trans rfl, (z04q BK232.out 1).trans rfl⟩ (fun hHeld => ?_)
    clear hK K
    refine norm_ (a' := ?_) ?_ ?_
    rotate_left
    · show Act.put _ (some 10) _ = _
      simp only [Act.put, List.setIfInBounds_toArray, List.set_cons_zero, List.set_cons_succ, i64_w, i32_w]
      rfl
    refine pure_ (i := 4) (N := some 5) (v := ?_) (a' := ?_) #[true, true, true, true, true, false] rfl rfl (by kernel_rfl) (fun _ _ _ h => h) (Or.inl ⟨by rfl, ?_⟩) ?_ ?_
    rotate_left
    · intro w'
      go_simp
      with_reducible rfl
    rotate_left
    · simp only [Act.put, List.setIfInBounds_toArray, List.set_cons_zero, List.set_cons_succ, i64_w, i32_w]
      rfl
    refine pure_ (i := 5) (N := some 6) (v := ?_) (a' := ?_) #[true, true, true, true, true, true] rfl rfl (by kernel_rfl) (fun _ _ _ h => h) (Or.inl ⟨by rfl, ?_⟩) ?_ ?_
    rotate_left
    · intro w'
      go_simp
      with_reducible rfl
    rotate_left
    · simp only [Act.put, List.setIfInBounds_toArray, List.set_cons_zero, List.set_cons_succ, i64_w, i32_w]
      rfl
    refine done_ (by kernel_rfl) ?_
    try go_wp2
    go_ret
    exact ⟨by first | rfl | (simp [z14q, z13q] <;> rfl) | (simp only [← hji27, ← hji28]; first | rfl | (simp [z14q, z13q] <;> rfl)) | (simp [*, z14q, z13q] <;> rfl), by repeat (first | (with_reducible first | exact HB.out | apply z02q | apply z00q | apply z01q | refine z03q ?_ GE231.out | refine z03q ?_ GE232.out) | exact HB.out)⟩
def whole_Mul.f (k : Nat) (a0_0 : Bool) (l0_1 : List Int) (a1_0 : Bool) (l1_1 : List Int) : Option (Bool × List Int) := (whole_Sign.f k a0_0 l0_1).bind fun t240 => ((whole_Sign.f k a1_0 l1_1).bind fun t241 => ((nat_Mul.f k l0_1 l1_1).bind fun t242 => ((whole_Make.f k (decide ((wrap64 (t240 * t241)) < 0)) t242).bind fun bt245 => (some (bt245.1, bt245.2)))))
theorem whole_Mul.mono : ∀ a0 a1 a2 a3 k, LeO (whole_Mul.f k a0 a1 a2 a3) (whole_Mul.f (k + 1) a0 a1 a2 a3) := by
  intro a0 a1 a2 a3 k
  unfold whole_Mul.f
  repeat' first
      | (with_reducible exact nat_Mul.mono _ _ _)
      | (with_reducible exact whole_Make.mono _ _ _)
      | (with_reducible exact whole_Sign.mono _ _ _)
      | (with_reducible exact LeO.refl _)
      | (with_reducible exact LeO.none _)
      | (with_reducible refine LeO.ite ?_ ?_)
      | (with_reducible refine LeO.bind ?_ (fun _ => ?_))
      | exact nat_Mul.mono _ _ _
      | exact whole_Make.mono _ _ _
      | exact whole_Sign.mono _ _ _
      | exact LeO.none _
      | refine LeO.ite ?_ ?_
      | refine LeO.bind ?_ (fun _ => ?_)
def whole_Mul.T1 : Bool × List (List Nat × List Nat) := (true, [([], []), ([0], [0]), ([], []), ([2, 1], [2]), ([1, 3], [1, 3]), ([4], [4]), ([], []), ([6], [6]), ([], []), ([8], [8]), ([7, 9, 3], [7, 9]), ([5, 10, 10], [5, 10]), ([11, 11, 0, 1, 2, 3, 4, 5, 6, 7, 8, 9, 10, 11], [11])])
def whole_Mul.B1 : List Nat := [0, 1, 0, 7, 15, 31, 0, 64, 0, 256, 975, 2047, 4095]
theorem whole_Mul.tab1 : rtab .any (opsOf Try.f46 1) = whole_Mul.T1 := by kernel_rfl
theorem whole_Mul.bits1 : waitsOk whole_Mul.T1.2 whole_Mul.B1 = true := by kernel_rfl
set_option maxHeartbeats 8000000 in
set_option maxRecDepth 100000 in
theorem whole_Mul.calls (k : Nat) (a0_0 : Bool) (A0_1 : Option Addr) (c0_1 : Nat) (l0_1 : List Int) (a1_0 : Bool) (A1_1 : Option Addr) (c1_1 : Nat) (l1_1 : List Int) (r1 : Bool) (r2 : List Int) (w : World) (hr0_1 : Kd.C (Kd.int .u32) w A0_1 l0_1.length l0_1) (hc0_1 : l0_1.length ≤ c0_1) (hr1_1 : Kd.C (Kd.int .u32) w A1_1 l1_1.length l1_1) (hc1_1 : l1_1.length ≤ c1_1) (h : whole_Mul.f k a0_0 l0_1 a1_0 l1_1 = some (r1, r2)) :
    Calls Try.prog 46 #[.agg #[.bool a0_0, .slice A0_1 l0_1.length c0_1], .agg #[.bool a1_0, .slice A1_1 l1_1.length c1_1]] w fun e w' => ∃ v1_ : Value, e = .returned (.agg #[.bool r1, v1_]) ∧ Kd.R (Kd.int .u32) 96 w' w.heap.size (fun _ => True) v1_ r2 ∧ Below w.heap.size w w' := by
  have hu37 := Try.underlying37
  have HR0_1 := Aside0.mk hr0_1
  have HC0_1 := Aside0.mk hc0_1
  clear hr0_1 hc0_1
  have HR1_1 := Aside0.mk hr1_1
  have HC1_1 := Aside0.mk hc1_1
  clear hr1_1 hc1_1
  have HB := Aside0.mk (Below.refl w.heap.size w)
  have H : ((whole_Sign.f k a0_0 l0_1).bind fun t240 => ((whole_Sign.f k a1_0 l1_1).bind fun t241 => ((nat_Mul.f k l0_1 l1_1).bind fun t242 => ((whole_Make.f k (decide ((wrap64 (t240 * t241)) < 0)) t242).bind fun bt245 => (some (bt245.1, bt245.2)))))) = some (r1, r2) := h
  clear h
  replace H := Option.bind_eq_some_iff.mp H
  obtain ⟨t240, A30, H⟩ := H
  replace H : ((whole_Sign.f k a1_0 l1_1).bind fun t241 => ((nat_Mul.f k l0_1 l1_1).bind fun t242 => ((whole_Make.f k (decide ((wrap64 (t240 * t241)) < 0)) t242).bind fun bt245 => (some (bt245.1, bt245.2))))) = some (r1, r2) := H
  have A3 := Aside0.mk A30
  clear A30
  replace H := Option.bind_eq_some_iff.mp H
  obtain ⟨t241, A40, H⟩ := H
  replace H : ((nat_Mul.f k l0_1 l1_1).bind fun t242 => ((whole_Make.f k (decide ((wrap64 (t240 * t241)) < 0)) t242).bind fun bt245 => (some (bt245.1, bt245.2)))) = some (r1, r2) := H
  have A4 := Aside0.mk A40
  clear A40
  replace H := Option.bind_eq_some_iff.mp H
  obtain ⟨t242, A50, H⟩ := H
  replace H : ((whole_Make.f k (decide ((wrap64 (t240 * t241)) < 0)) t242).bind fun bt245 => (some (bt245.1, bt245.2))) = some (r1, r2) := H
  have A5 := Aside0.mk A50
  clear A50
  replace H := Option.bind_eq_some_iff.mp H
  obtain ⟨⟨t245, t246⟩, A60, H⟩ := H
  replace H : (some (t245, t246)) = some (r1, r2) := H
  have A6 := Aside0.mk A60
  clear A60
  simp only [Option.some.injEq, Prod.mk.injEq] at H
  obtain ⟨rfl, rfl⟩ := H
  go_enter Try.func46, Try.ntmps46
  try go_wp2_with (first | ((with_reducible refine z18q (N := 2) rfl ?_); refine z17q ?hg (N := 2) ?hd (cs := #[.bool a0_0, .slice A0_1 l0_1.length c0_1]) (t := 37) ?hr ?_; (case hd => rfl); (case hg => rfl); (case hr => first | (go_simp; done) | (go_simp; rfl)); intro gb237 hg w7 hbox hb; have n0_ := Aside0.mk (z11q (by repeat (first | (with_reducible first | exact HB.out | apply z02q | apply z00q | apply z01q) | exact HB.out)) hb); have n1_ := Aside0.mk (hbox); have n2_ := Aside0.mk ((by rw [hg]; exact (z10q (by repeat (first | (with_reducible first | exact HB.out | apply z02q | apply z00q | apply z01q) | exact HB.out))) : w.heap.size ≤ gb237)); have n3_ := Aside0.mk ((by rw [hg]; exact (z10q (by repeat (first | (with_reducible first | exact HB.out | apply z02q | apply z00q | apply z01q) | exact HB.out))) : w.heap.size ≤ gb237)); clear HB; have HB := n0_; have BK237 := n1_; have GW237 := n2_; have GE237 := n3_; clear n0_ n1_ n2_ n3_; clear hb hbox hg) | ((with_reducible refine z18q (N := 3) rfl ?_); refine z17q ?hg (N := 3) ?hd (cs := #[.bool a1_0, .slice A1_1 l1_1.length c1_1]) (t := 37) ?hr ?_; (case hd => rfl); (case hg => rfl); (case hr => first | (go_simp; done) | (go_simp; rfl)); intro gb238 hg w8 hbox hb; have n0_ := Aside0.mk (z09q (g := gb237) (o := .cells #[.bool a0_0, .slice A0_1 l0_1.length c0_1] 37 (0, 0)) (by (with_reducible repeat (first | refine z06q ?_ _ | refine z07q ?_ | refine z05q ?_ _)); exact BK237.out) hb); have n1_ := Aside0.mk (z11q (by repeat (first | (with_reducible first | exact HB.out | apply z02q | apply z00q | apply z01q | refine z03q ?_ GE237.out) | exact HB.out)) hb); have n2_ := Aside0.mk (hbox); have n3_ := Aside0.mk ((by rw [hg]; exact (z10q (by repeat (first | (with_reducible first | exact HB.out | apply z02q | apply z00q | apply z01q | refine z03q ?_ GE237.out) | exact HB.out))) : w.heap.size ≤ gb238)); have n4_ := Aside0.mk ((by rw [hg]; exact (z10q (by repeat (first | (with_reducible first | exact HB.out | apply z02q | apply z00q | apply z01q | refine z03q ?_ GE237.out) | exact HB.out))) : w.heap.size ≤ gb238)); have n5_ := Aside0.mk ((by rw [hg]; exact Nat.ne_of_lt (blk_lt (g := gb237) (o := .cells #[.bool a0_0, .slice A0_1 l0_1.length c0_1] 37 (0, 0)) (by (with_reducible repeat (first | refine z06q ?_ _ | refine z07q ?_ | refine z05q ?_ _)); exact BK237.out)) : gb237 ≠ gb238)); have n6_ := Aside0.mk ((by rw [hg]; exact Nat.ne_of_gt (blk_lt (g := gb237) (o := .cells #[.bool a0_0, .slice A0_1 l0_1.length c0_1] 37 (0, 0)) (by (with_reducible repeat (first | refine z06q ?_ _ | refine z07q ?_ | refine z05q ?_ _)); exact BK237.out)) : gb238 ≠ gb237)); clear BK237; clear HB; have BK237 := n0_; have HB := n1_; have BK238 := n2_; have GW238 := n3_; have GE238 := n4_; have NB237_238 := n5_; have NB238_237 := n6_; clear n0_ n1_ n2_ n3_ n4_ n5_ n6_; clear hb hbox hg) | ((with_reducible refine z18q (N := 4) rfl ?_); refine z17q ?hg (N := 4) ?hd (cs := #[.bool false, .slice none 0 0]) (t := 37) ?hr ?_; (case hd => rfl); (case hg => rfl); (case hr => first | (go_simp; done) | (go_simp; rfl)); intro gb239 hg w9 hbox hb; have n0_ := Aside0.mk (z09q (g := gb237) (o := .cells #[.bool a0_0, .slice A0_1 l0_1.length c0_1] 37 (0, 0)) (by (with_reducible repeat (first | refine z06q ?_ _ | refine z07q ?_ | refine z05q ?_ _)); exact BK237.out) hb); have n1_ := Aside0.mk (z09q (g := gb238) (o := .cells #[.bool a1_0, .slice A1_1 l1_1.length c1_1] 37 (0, 0)) (by (with_reducible repeat (first | refine z06q ?_ _ | refine z07q ?_ | refine z05q ?_ _)); exact BK238.out) hb); have n2_ := Aside0.mk (z11q (by repeat (first | (with_reducible first | exact HB.out | apply z02q | apply z00q | apply z01q | refine z03q ?_ GE237.out | refine z03q ?_ GE238.out) | exact HB.out)) hb); have n3_ := Aside0.mk (hbox); have n4_ := Aside0.mk ((by rw [hg]; exact (z10q (by repeat (first | (with_reducible first | exact HB.out | apply z02q | apply z00q | apply z01q | refine z03q ?_ GE237.out | refine z03q ?_ GE238.out) | exact HB.out))) : w.heap.size ≤ gb239)); have n5_ := Aside0.mk ((by rw [hg]; exact (z10q (by repeat (first | (with_reducible first | exact HB.out | apply z02q | apply z00q | apply z01q | refine z03q ?_ GE237.out | refine z03q ?_ GE238.out) | exact HB.out))) : w.heap.size ≤ gb239)); have n6_ := Aside0.mk ((by rw [hg]; exact Nat.ne_of_lt (blk_lt (g := gb237) (o := .cells #[.bool a0_0, .slice A0_1 l0_1.length c0_1] 37 (0, 0)) (by (with_reducible repeat (first | refine z06q ?_ _ | refine z07q ?_ | refine z05q ?_ _)); exact BK237.out)) : gb237 ≠ gb239)); have n7_ := Aside0.mk ((by rw [hg]; exact Nat.ne_of_gt (blk_lt (g := gb237) (o := .cells #[.bool a0_0, .slice A0_1 l0_1.length c0_1] 37 (0, 0)) (by (with_reducible repeat (first | refine z06q ?_ _ | refine z07q ?_ | refine z05q ?_ _)); exact BK237.out)) : gb239 ≠ gb237)); have n8_ := Aside0.mk ((by rw [hg]; exact Nat.ne_of_lt (blk_lt (g := gb238) (o := .cells #[.bool a1_0, .slice A1_1 l1_1.length c1_1] 37 (0, 0)) (by (with_reducible repeat (first | refine z06q ?_ _ | refine z07q ?_ | refine z05q ?_ _)); exact BK238.out)) : gb238 ≠ gb239)); have n9_ := Aside0.mk ((by rw [hg]; exact Nat.ne_of_gt (blk_lt (g := gb238) (o := .cells #[.bool a1_0, .slice A1_1 l1_1.length c1_1] 37 (0, 0)) (by (with_reducible repeat (first | refine z06q ?_ _ | refine z07q ?_ | refine z05q ?_ _)); exact BK238.out)) : gb239 ≠ gb238)); clear BK237; clear BK238; clear HB; have BK237 := n0_; have BK238 := n1_; have HB := n2_; have BK239 := n3_; have GW239 := n4_; have GE239 := n5_; have NB237_239 := n6_; have NB239_237 := n7_; have NB238_239 := n8_; have NB239_238 := n9_; clear n0_ n1_ n2_ n3_ n4_ n5_ n6_ n7_ n8_ n9_; clear hb hbox hg))
  have n0_ := Aside0.mk (z07q BK237.out)
  have n1_ := Aside0.mk (z07q BK238.out)
  have n2_ := Aside0.mk (z07q BK239.out)
  have n3_ := Aside0.mk (z01q HB.out)
  clear BK237
  clear BK238
  clear BK239
  clear HB
  have BK237 := n0_
  have BK238 := n1_
  have BK239 := n2_
  have HB := n3_
  clear n0_ n1_ n2_ n3_
  refine start_ (n := 13) (S := fun w' => w'.cell? ⟨gb237, 0, none⟩ = some (.bool a0_0) ∧ w'.cell? ⟨gb237, 1, none⟩ = some (.slice A0_1 l0_1.length c0_1) ∧ w'.cell? ⟨gb238, 0, none⟩ = some (.bool a1_0) ∧ w'.cell? ⟨gb238, 1, none⟩ = some (.slice A1_1 l1_1.length c1_1)) (ds := []) #[false, false, false, false, false, false, false, false, false, false, false, false, false] (by kernel_rfl) rfl rfl ⟨(z04q BK237.out 0).trans rfl, (z04q BK237.out 1).trans rfl, (z04q BK238.out 0).trans rfl, (z04q BK238.out 1).trans rfl⟩ (fun hHeld => ?_); refine with_tabW whole_Mul.tab1 whole_Mul.bits1 (fun HT_ HW_ => ?_)
  generalize w9.drew = w10 at BK237 BK238 BK239 HB hHeld ⊢
  refine pure_ (i := 6) (N := some 11) (v := ?_) (a' := ?_) #[false, false, false, false, false, false, true, false, false, false, false, false, false] rfl rfl (any_of HT_.out (by kernel_rfl)) (fun _ _ _ h => h) (Or.inl ⟨by rfl, ?_⟩) ?_ ?_
  rotate_left
  · intro w'
    go_simp
    with_reducible rfl
  rotate_left
  · simp only [Act.put, List.setIfInBounds_toArray, List.set_cons_zero, List.set_cons_succ, i64_w, i32_w]
    rfl
  refine pure_ (i := 8) (N := some 13) (v := ?_) (a' := ?_) #[false, false, false, false, false, false, true, false, true, false, false, false, false] rfl rfl (any_of HT_.out (by kernel_rfl)) (fun _ _ _ h => h) (Or.inl ⟨by rfl, ?_⟩) ?_ ?_
  rotate_left
  · intro w'
    go_simp
    with_reducible rfl
  rotate_left
  · simp only [Act.put, List.setIfInBounds_toArray, List.set_cons_zero, List.set_cons_succ, i64_w, i32_w]
    rfl
  refine take_ (i := 0) (N := some 5) (v := ?_) (a' := ?_) #[true, false, false, false, false, false, true, false, true, false, false, false, false] rfl rfl (z29q HT_.out HW_.out (by kernel_rfl)) (fun _ _ _ h => h) (Or.inl ⟨by rfl, ?_⟩) hHeld ?_ ?_
  rotate_left
  · rintro w' ⟨s0, s1, s2, s3⟩
    go_simp
    with_reducible rfl
  rotate_left
  · simp only [Act.put, List.setIfInBounds_toArray, List.set_cons_zero, List.set_cons_succ, i64_w, i32_w]
    rfl
  refine take_ (i := 2) (N := some 7) (v := ?_) (a' := ?_) #[true, false, true, false, false, false, true, false, true, false, false, false, false] rfl rfl (z29q HT_.out HW_.out (by kernel_rfl)) (fun _ _ _ h => h) (Or.inl ⟨by rfl, ?_⟩) hHeld ?_ ?_
  rotate_left
  · rintro w' ⟨s0, s1, s2, s3⟩
    go_simp
    with_reducible rfl
  rotate_left
  · simp only [Act.put, List.setIfInBounds_toArray, List.set_cons_zero, List.set_cons_succ, i64_w, i32_w]
    rfl
  refine take_ (i := 7) (N := some 12) (v := ?_) (a' := ?_) #[true, false, true, false, false, false, true, true, true, false, false, false, false] rfl rfl (z29q HT_.out HW_.out (by kernel_rfl)) (fun _ _ _ h => h) (Or.inl ⟨by rfl, ?_⟩) hHeld ?_ ?_
  rotate_left
  · rintro w' ⟨s0, s1, s2, s3⟩
    go_simp
    with_reducible rfl
  rotate_left
  · simp only [Act.put, List.setIfInBounds_toArray, List.set_cons_zero, List.set_cons_succ, i64_w, i32_w]
    rfl
  refine take_ (i := 9) (N := some 14) (v := ?_) (a' := ?_) #[true, false, true, false, false, false, true, true, true, true, false, false, false] rfl rfl (z29q HT_.out HW_.out (by kernel_rfl)) (fun _ _ _ h => h) (Or.inl ⟨by rfl, ?_⟩) hHeld ?_ ?_
  rotate_left
  · rintro w' ⟨s0, s1, s2, s3⟩
    go_simp
    with_reducible rfl
  rotate_left
  · simp only [Act.put, List.setIfInBounds_toArray, List.set_cons_zero, List.set_cons_succ, i64_w, i32_w]
    rfl
  refine one_ (i := 1) (N := some 6) #[true, true, true, false, false, false, true, true, true, true, false, false, false] rfl rfl (one_of HT_.out (by kernel_rfl)) (by decide) (fun K hK => ?_)
  refine goes_ Try.func44 (by kernel_rfl) rfl #[.agg #[.bool a0_0, .slice A0_1 l0_1.length c0_1]] (by rfl) rfl rfl (by (try simp only [List.map_toArray, List.map_cons, List.map_nil]); first | done | rfl | (simp only [List.length_drop, List.length_take]; rfl)) ?_
  with_reducible refine (whole_Sign.calls k a0_0 _ _ l0_1 t240 _ ?side1 ?side2 A3.out).mono ?_
  (case side1 => repeat (first | exact (Kd.C_below HR0_1.out HB.out) | (with_reducible refine Kd.C_alloc ?_ _) | (with_reducible refine Kd.C_drewN ?_ _) | (with_reducible refine Kd.C_drew ?_)))
  (case side2 => exact HC0_1.out)
  rintro e w11 ⟨rfl, hb⟩
  refine ⟨_, rfl, ?_⟩
  have n0_ := Aside0.mk (z09q (g := gb237) (o := .cells #[.bool a0_0, .slice A0_1 l0_1.length c0_1] 37 (0, 0)) (by (with_reducible repeat (first | refine z06q ?_ _ | refine z07q ?_ | refine z05q ?_ _)); exact BK237.out) hb)
  have n1_ := Aside0.mk (z09q (g := gb238) (o := .cells #[.bool a1_0, .slice A1_1 l1_1.length c1_1] 37 (0, 0)) (by (with_reducible repeat (first | refine z06q ?_ _ | refine z07q ?_ | refine z05q ?_ _)); exact BK238.out) hb)
  have n2_ := Aside0.mk (z09q (g := gb239) (o := .cells #[.bool false, .slice none 0 0] 37 (0, 0)) (by (with_reducible repeat (first | refine z06q ?_ _ | refine z07q ?_ | refine z05q ?_ _)); exact BK239.out) hb)
  have n3_ := Aside0.mk (z11q (by repeat (first | (with_reducible first | exact HB.out | apply z02q | apply z00q | apply z01q | refine z03q ?_ GE237.out | refine z03q ?_ GE238.out | refine z03q ?_ GE239.out) | exact HB.out)) hb)
  clear BK237
  clear BK238
  clear BK239
  clear HB
  have BK237 := n0_
  have BK238 := n1_
  have BK239 := n2_
  have HB := n3_
  clear n0_ n1_ n2_ n3_
  (try clear hb)
  (try clear hb2)
  (try clear hk)
  (try clear hi)
  refine hK.out _ _ ⟨(z04q BK237.out 0).trans rfl, (z04q BK237.out 1).trans rfl, (z04q BK238.out 0).trans rfl, (z04q BK238.out 1).trans rfl⟩ (fun hHeld => ?_)
  clear hK K
  refine norm_ (a' := ?_) ?_ ?_
  rotate_left
  · show Act.put _ (some 6) _ = _
    simp only [Act.put, List.setIfInBounds_toArray, List.set_cons_zero, List.set_cons_succ, i64_w, i32_w]
    rfl
  refine one_ (i := 3) (N := some 8) #[true, true, true, true, false, false, true, true, true, true, false, false, false] rfl rfl (one_of HT_.out (by kernel_rfl)) (by decide) (fun K hK => ?_)
  refine goes_ Try.func44 (by kernel_rfl) rfl #[.agg #[.bool a1_0, .slice A1_1 l1_1.length c1_1]] (by rfl) rfl rfl (by (try simp only [List.map_toArray, List.map_cons, List.map_nil]); first | done | rfl | (simp only [List.length_drop, List.length_take]; rfl)) ?_
  with_reducible refine (whole_Sign.calls k a1_0 _ _ l1_1 t241 _ ?side1 ?side2 A4.out).mono ?_
  (case side1 => repeat (first | exact (Kd.C_below HR1_1.out HB.out) | (with_reducible refine Kd.C_alloc ?_ _) | (with_reducible refine Kd.C_drewN ?_ _) | (with_reducible refine Kd.C_drew ?_)))
  (case side2 => exact HC1_1.out)
  rintro e w12 ⟨rfl, hb⟩
  refine ⟨_, rfl, ?_⟩
  have n0_ := Aside0.mk (z09q (g := gb237) (o := .cells #[.bool a0_0, .slice A0_1 l0_1.length c0_1] 37 (0, 0)) (by (with_reducible repeat (first | refine z06q ?_ _ | refine z07q ?_ | refine z05q ?_ _)); exact BK237.out) hb)
  have n1_ := Aside0.mk (z09q (g := gb238) (o := .cells #[.bool a1_0, .slice A1_1 l1_1.length c1_1] 37 (0, 0)) (by (with_reducible repeat (first | refine z06q ?_ _ | refine z07q ?_ | refine z05q ?_ _)); exact BK238.out) hb)
  have n2_ := Aside0.mk (z09q (g := gb239) (o := .cells #[.bool false, .slice none 0 0] 37 (0, 0)) (by (with_reducible repeat (first | refine z06q ?_ _ | refine z07q ?_ | refine z05q ?_ _)); exact BK239.out) hb)
  have n3_ := Aside0.mk (z11q (by repeat (first | (with_reducible first | exact HB.out | apply z02q | apply z00q | apply z01q | refine z03q ?_ GE237.out | refine z03q ?_ GE238.out | refine z03q ?_ GE239.out) | exact HB.out)) hb)
  clear BK237
  clear BK238
  clear BK239
  clear HB
  have BK237 := n0_
  have BK238 := n1_
  have BK239 := n2_
  have HB := n3_
  clear n0_ n1_ n2_ n3_
  (try clear hb)
  (try clear hb2)
  (try clear hk)
  (try clear hi)
  refine hK.out _ _ ⟨(z04q BK237.out 0).trans rfl, (z04q BK237.out 1).trans rfl, (z04q BK238.out 0).trans rfl, (z04q BK238.out 1).trans rfl⟩ (fun hHeld => ?_)
  clear hK K
  refine norm_ (a' := ?_) ?_ ?_
  rotate_left
  · show Act.put _ (some 8) _ = _
    simp only [Act.put, List.setIfInBounds_toArray, List.set_cons_zero, List.set_cons_succ, i64_w, i32_w]
    rfl
  refine pure_ (i := 4) (N := some 9) (v := ?_) (a' := ?_) #[true, true, true, true, true, false, true, true, true, true, false, false, false] rfl rfl (any_of HT_.out (by kernel_rfl)) (fun _ _ _ h => h) (Or.inl ⟨by rfl, ?_⟩) ?_ ?_
  rotate_left
  · intro w'
    go_simp
    with_reducible rfl
  rotate_left
  · simp only [Act.put, List.setIfInBounds_toArray, List.set_cons_zero, List.set_cons_succ, i64_w, i32_w]
    rfl
  refine pure_ (i := 5) (N := some 10) (v := ?_) (a' := ?_) #[true, true, true, true, true, true, true, true, true, true, false, false, false] rfl rfl (any_of HT_.out (by kernel_rfl)) (fun _ _ _ h => h) (Or.inl ⟨by rfl, ?_⟩) ?_ ?_
  rotate_left
  · intro w'
    go_simp
    with_reducible rfl
  rotate_left
  · simp only [Act.put, List.setIfInBounds_toArray, List.set_cons_zero, List.set_cons_succ, i64_w, i32_w]
    rfl
  refine one_ (i := 10) (N := some 15) #[true, true, true, true, true, true, true, true, true, true, true, false, false] rfl rfl (one_of HT_.out (by kernel_rfl)) (by decide) (fun K hK => ?_)
  refine goes_ Try.func42 (by kernel_rfl) rfl #[.slice A0_1 l0_1.length c0_1, .slice A1_1 l1_1.length c1_1] (by rfl) rfl rfl (by (try simp only [List.map_toArray, List.map_cons, List.map_nil]); first | done | rfl | (simp only [List.length_drop, List.length_take]; rfl)) ?_
  with_reducible refine (nat_Mul.calls k _ _ l0_1 _ _ l1_1 t242 _ ?side1 ?side2 ?side3 ?side4 A5.out).mono ?_
  (case side1 => repeat (first | exact (Kd.C_below HR0_1.out HB.out) | (with_reducible refine Kd.C_alloc ?_ _) | (with_reducible refine Kd.C_drewN ?_ _) | (with_reducible refine Kd.C_drew ?_)))
  (case side2 => exact HC0_1.out)
  (case side3 => repeat (first | exact (Kd.C_below HR1_1.out HB.out) | (with_reducible refine Kd.C_alloc ?_ _) | (with_reducible refine Kd.C_drewN ?_ _) | (with_reducible refine Kd.C_drew ?_)))
  (case side4 => exact HC1_1.out)
  rintro e w13 ⟨v243, rfl, ho0, hb⟩
  refine ⟨_, rfl, ?_⟩
  have n0_ := Aside0.mk (Kd.R_lower ho0 (z10q (by repeat (first | (with_reducible first | exact HB.out | apply z02q | apply z00q | apply z01q | refine z03q ?_ GE237.out | refine z03q ?_ GE238.out | refine z03q ?_ GE239.out) | exact HB.out))))
  have n1_ := Aside0.mk (z09q (g := gb237) (o := .cells #[.bool a0_0, .slice A0_1 l0_1.length c0_1] 37 (0, 0)) (by (with_reducible repeat (first | refine z06q ?_ _ | refine z07q ?_ | refine z05q ?_ _)); exact BK237.out) hb)
  have n2_ := Aside0.mk (z09q (g := gb238) (o := .cells #[.bool a1_0, .slice A1_1 l1_1.length c1_1] 37 (0, 0)) (by (with_reducible repeat (first | refine z06q ?_ _ | refine z07q ?_ | refine z05q ?_ _)); exact BK238.out) hb)
  have n3_ := Aside0.mk (z09q (g := gb239) (o := .cells #[.bool false, .slice none 0 0] 37 (0, 0)) (by (with_reducible repeat (first | refine z06q ?_ _ | refine z07q ?_ | refine z05q ?_ _)); exact BK239.out) hb)
  have n4_ := Aside0.mk (z11q (by repeat (first | (with_reducible first | exact HB.out | apply z02q | apply z00q | apply z01q | refine z03q ?_ GE237.out | refine z03q ?_ GE238.out | refine z03q ?_ GE239.out) | exact HB.out)) hb)
  clear BK237
  clear BK238
  clear BK239
  clear HB
  have HO244 := n0_
  have BK237 := n1_
  have BK238 := n2_
  have BK239 := n3_
  have HB := n4_
  clear n0_ n1_ n2_ n3_ n4_
  (try clear hb)
  (try clear hb2)
  (try clear hk)
  (try clear hi)
  (try clear ho0)
  obtain ⟨Ao14, co14, eo14⟩ := Kd.R_slice HO244.out
  (first | subst eo14 | (injection eo14 with f1_ f2_ f3_; have f4_ := f1_.symm; have f5_ := f3_.symm; clear f1_ f2_ f3_; subst f4_; subst f5_))
  refine hK.out _ _ ⟨(z04q BK237.out 0).trans rfl, (z04q BK237.out 1).trans rfl, (z04q BK238.out 0).trans rfl, (z04q BK238.out 1).trans rfl⟩ (fun hHeld => ?_)
  clear hK K
  refine norm_ (a' := ?_) ?_ ?_
  rotate_left
  · show Act.put _ (some 15) _ = _
    simp only [Act.put, List.setIfInBounds_toArray, List.set_cons_zero, List.set_cons_succ, i64_w, i32_w]
    rfl
  refine one_ (i := 11) (N := some 16) #[true, true, true, true, true, true, true, true, true, true, true, true, false] rfl rfl (one_of HT_.out (by kernel_rfl)) (by decide) (fun K hK => ?_)
  refine goes_ Try.func47 (by kernel_rfl) rfl #[.bool (decide ((wrap64 (t240 * t241)) < 0)), .slice Ao14 t242.length co14] (by rfl) rfl rfl (by (try simp only [List.map_toArray, List.map_cons, List.map_nil]); first | done | rfl | (simp only [List.length_drop, List.length_take]; rfl)) ?_
  with_reducible refine (whole_Make.calls k (decide ((wrap64 (t240 * t241)) < 0)) _ _ t242 t245 t246 _ ?side1 ?side2 A6.out).mono ?_
  (case side1 => repeat (first | exact (Kd.R_reads' HO244.out).2.2 | (with_reducible refine Kd.C_alloc ?_ _) | (with_reducible refine Kd.C_drewN ?_ _) | (with_reducible refine Kd.C_drew ?_)))
  (case side2 => exact (Kd.R_reads' HO244.out).2.1)
  rintro e w15 ⟨v247, rfl, ho0, hb⟩
  refine ⟨_, rfl, ?_⟩
  have n0_ := Aside0.mk (Kd.R_elder' (by (with_reducible repeat (first | apply Kd.R_alloc | apply Kd.R_drewN | apply Kd.R_drew)); exact HO244.out) (Kd.R_base ho0) hb)
  have n1_ := Aside0.mk (Kd.R_lower (Kd.R_new' ho0 (Kd.R_lt (by (with_reducible repeat (first | apply Kd.R_alloc | apply Kd.R_drewN | apply Kd.R_drew)); exact HO244.out))) (z10q (by repeat (first | (with_reducible first | exact HB.out | apply z02q | apply z00q | apply z01q | refine z03q ?_ GE237.out | refine z03q ?_ GE238.out | refine z03q ?_ GE239.out) | exact HB.out))))
  have n2_ := Aside0.mk (z09q (g := gb237) (o := .cells #[.bool a0_0, .slice A0_1 l0_1.length c0_1] 37 (0, 0)) (by (with_reducible repeat (first | refine z06q ?_ _ | refine z07q ?_ | refine z05q ?_ _)); exact BK237.out) hb)
  have n3_ := Aside0.mk (z09q (g := gb238) (o := .cells #[.bool a1_0, .slice A1_1 l1_1.length c1_1] 37 (0, 0)) (by (with_reducible repeat (first | refine z06q ?_ _ | refine z07q ?_ | refine z05q ?_ _)); exact BK238.out) hb)
  have n4_ := Aside0.mk (z09q (g := gb239) (o := .cells #[.bool false, .slice none 0 0] 37 (0, 0)) (by (with_reducible repeat (first | refine z06q ?_ _ | refine z07q ?_ | refine z05q ?_ _)); exact BK239.out) hb)
  have n5_ := Aside0.mk (z11q (by repeat (first | (with_reducible first | exact HB.out | apply z02q | apply z00q | apply z01q | refine z03q ?_ GE237.out | refine z03q ?_ GE238.out | refine z03q ?_ GE239.out) | exact HB.out)) hb)
  clear HO244
  clear BK237
  clear BK238
  clear BK239
  clear HB
  have HO244 := n0_
  have HO248 := n1_
  have BK237 := n2_
  have BK238 := n3_
  have BK239 := n4_
  have HB := n5_
  clear n0_ n1_ n2_ n3_ n4_ n5_
  (try clear hb)
  (try clear hb2)
  (try clear hk)
  (try clear hi)
  (try clear ho0)
  obtain ⟨Ao17, co17, eo17⟩ := Kd.R_slice HO248.out
  (first | subst eo17 | (injection eo17 with f1_ f2_ f3_; have f4_ := f1_.symm; have f5_ := f3_.symm; clear f1_ f2_ f3_; subst f4_; subst f5_))
  refine hK.out _ _ ⟨(z04q BK237.out 0).trans rfl, (z04q BK237.out 1).trans rfl, (z04q BK238.out 0).trans rfl, (z04q BK238.out 1).trans rfl⟩ (fun hHeld => ?_)
  clear hK K
  refine norm_ (a' := ?_) ?_ ?_
  rotate_left
  · show Act.put _ (some 16) _ = _
    simp only [Act.put, List.setIfInBounds_toArray, List.set_cons_zero, List.set_cons_succ, i64_w, i32_w]
    rfl
  refine one_ (i := 12) (N := none) #[true, true, true, true, true, true, true, true, true, true, true, true, true] rfl rfl (one_of HT_.out (by kernel_rfl)) (by decide) (fun K hK => ?_)
  have hs16 : w15.cell? ⟨gb239, 0, none⟩ = some (.bool false) := (z04q BK239.out 0).trans rfl
  have hfs16 := z08q BK239.out 0
  have hns16_0 := NB237_239.out
  have hns16_1 := NB238_239.out
  have hms16_0 := NB239_237.out
  have hms16_1 := NB239_238.out
  have hs18 : w15.cell? ⟨gb239, 1, none⟩ = some (.slice none 0 0) := (z04q BK239.out 1).trans rfl
  have hfs18 := z08q BK239.out 1
  have hns18_0 := NB237_239.out
  have hns18_1 := NB238_239.out
  have hms18_0 := NB239_237.out
  have hms18_1 := NB239_238.out
  refine skip_ (w1 := ?_) (by rfl) rfl ?_ ?_
  rotate_left
  · go_simp
    rfl
  refine hK.out _ _ ⟨((cell_far (p := ⟨gb239, _, none⟩) NB237_239.out _).trans (((cell_far (p := ⟨gb239, _, none⟩) NB237_239.out _).trans (hHeld.1)))), ((cell_far (p := ⟨gb239, _, none⟩) NB237_239.out _).trans (((cell_far (p := ⟨gb239, _, none⟩) NB237_239.out _).trans (hHeld.2.1)))), ((cell_far (p := ⟨gb239, _, none⟩) NB238_239.out _).trans (((cell_far (p := ⟨gb239, _, none⟩) NB238_239.out _).trans (hHeld.2.2.1)))), ((cell_far (p := ⟨gb239, _, none⟩) NB238_239.out _).trans (((cell_far (p := ⟨gb239, _, none⟩) NB238_239.out _).trans (hHeld.2.2.2))))⟩ (fun hHeld => ?_)
  clear hK K
  refine done_ (done_of HT_.out (by kernel_rfl)) ?_
  try go_wp2
  refine bodyPost_ret (results_cell_row rfl _ _ gb239 37 #[.bool t245, .slice Ao17 t246.length co17] (0, 0) _ rfl (by (with_reducible repeat (first | refine z06q ?_ _ | refine z07q ?_ | refine z05q ?_ _)); refine blk_put (cs := #[.bool t245, .slice none 0 0]) ?_ 1 _ rfl; (with_reducible repeat (first | refine z06q ?_ _ | refine z07q ?_ | refine z05q ?_ _)); refine blk_put (cs := #[.bool false, .slice none 0 0]) ?_ 0 _ rfl; (with_reducible repeat (first | refine z06q ?_ _ | refine z07q ?_ | refine z05q ?_ _)); exact BK239.out) Try.underlying37 rfl (by kernel_rfl)) rfl ?_
  exact ⟨_, by first | rfl | (simp [z14q, z13q] <;> rfl) | (simp [*, z14q, z13q] <;> rfl), by (with_reducible repeat (first | apply Kd.R_alloc | apply Kd.R_drewN | apply Kd.R_drew)); exact Kd.R_mono (Kd.R_far (p := ⟨gb239, 1, none⟩) (Kd.R_far (p := ⟨gb239, 0, none⟩) (Kd.R_types HO248.out BK239.out (by decide)) (fun _ hk => hk.2) (.bool t245)) (fun _ hk => hk.2) (.slice Ao17 t246.length co17)) (fun _ hk => trivial), by repeat (first | (with_reducible first | exact HB.out | apply z02q | apply z00q | apply z01q | refine z03q ?_ GE237.out | refine z03q ?_ GE238.out | refine z03q ?_ GE239.out) | exact HB.out)⟩
end Go.Proofs.Ytgnffmbaecabnaa.M
