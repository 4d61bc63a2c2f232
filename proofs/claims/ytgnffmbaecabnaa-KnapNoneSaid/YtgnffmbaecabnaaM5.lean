-- Printed by a program of this session's own (wip/myprint.py), out of the kit's print with functions given by hand. Lean checks it.
import Derived.Test.YtgnffmbaecabnaaM0
import Derived.Test.YtgnffmbaecabnaaM1
import Derived.Test.YtgnffmbaecabnaaM2
import Derived.Test.YtgnffmbaecabnaaM3
import Derived.Test.YtgnffmbaecabnaaM4
namespace Go.Proofs.Ytgnffmbaecabnaa.M
open Go.RowKit Go.Shelf Go.Proofs.YtgnffmbaecabnaaW.PrintWords Go.Proofs.YtgnffmbaecabnaaW.PrintLast Go.Proofs.YtgnffmbaecabnaaW.PrintMore
attribute [local go_sem] z33q z31q max_two min_two z28q z27q z32q z30q   -- for this text's walks alone
set_option linter.unusedVariables false
set_option linter.unusedSimpArgs false
def nat_Gcd.l0 : Nat → List Int → List Int → Option (List Int)
  | 0, _, _ => none
  | k + 1, x0, x1 => if (x1.length : Int) > 0 then ((nat_DivMod.f x0 x1).bind fun bt179 => (nat_Gcd.l0 k x1 bt179.2.1)) else (some x0)
def nat_Gcd.f (k : Nat) (l0 : List Int) (l1 : List Int) : Option (List Int) := (nat_trim.f k l0).bind fun t173 => ((nat_trim.f k l1).bind fun t176 => (nat_Gcd.l0 k t173 t176))
theorem nat_Gcd.mono_l : ∀ k, (∀ y0 y1, LeO (nat_Gcd.l0 k y0 y1) (nat_Gcd.l0 (k + 1) y0 y1))
  | 0 => fun _ _ r h => by simp [nat_Gcd.l0] at h
  | k + 1 => by
    have ih0 := nat_Gcd.mono_l k
    · intro y0 y1
      unfold nat_Gcd.l0
      repeat' first
      | (with_reducible exact ih0 _ _)
      | (with_reducible exact nat_trim.mono _ _)
      | (with_reducible exact LeO.refl _)
      | (with_reducible exact LeO.none _)
      | (with_reducible refine LeO.ite ?_ ?_)
      | (with_reducible refine LeO.bind ?_ (fun _ => ?_))
      | exact ih0 _ _
      | exact nat_trim.mono _ _
      | exact LeO.none _
      | refine LeO.ite ?_ ?_
      | refine LeO.bind ?_ (fun _ => ?_)
theorem nat_Gcd.mono : ∀ a0 a1 k, LeO (nat_Gcd.f k a0 a1) (nat_Gcd.f (k + 1) a0 a1) := by
  intro a0 a1 k
  have ih0 := nat_Gcd.mono_l k
  unfold nat_Gcd.f
  repeat' first
      | (with_reducible exact ih0 _ _)
      | (with_reducible exact nat_trim.mono _ _)
      | (with_reducible exact LeO.refl _)
      | (with_reducible exact LeO.none _)
      | (with_reducible refine LeO.ite ?_ ?_)
      | (with_reducible refine LeO.bind ?_ (fun _ => ?_))
      | exact ih0 _ _
      | exact nat_trim.mono _ _
      | exact LeO.none _
      | refine LeO.ite ?_ ?_
      | refine LeO.bind ?_ (fun _ => ?_)
set_option maxHeartbeats 8000000 in
set_option maxRecDepth 100000 in
theorem nat_Gcd.calls (k : Nat) (A0 : Option Addr) (c0 : Nat) (l0 : List Int) (A1 : Option Addr) (c1 : Nat) (l1 : List Int) (r : List Int) (w : World) (hr0 : Kd.C (Kd.int .u32) w A0 l0.length l0) (hc0 : l0.length ≤ c0) (hr1 : Kd.C (Kd.int .u32) w A1 l1.length l1) (hc1 : l1.length ≤ c1) (h : nat_Gcd.f k l0 l1 = some r) :
    Calls Try.prog 48 #[.slice A0 l0.length c0, .slice A1 l1.length c1] w fun e w' => ∃ v0_ : Value, e = .returned (v0_) ∧ Kd.R (Kd.int .u32) 96 w' w.heap.size (fun _ => True) v0_ r ∧ Below w.heap.size w w' := by
  have HR0 := Aside0.mk hr0
  have HC0 := Aside0.mk hc0
  clear hr0 hc0
  have HR1 := Aside0.mk hr1
  have HC1 := Aside0.mk hc1
  clear hr1 hc1
  have HB := Aside0.mk (Below.refl w.heap.size w)
  have H : ((nat_trim.f k l0).bind fun t173 => ((nat_trim.f k l1).bind fun t176 => (nat_Gcd.l0 k t173 t176))) = some r := h
  clear h
  replace H := Option.bind_eq_some_iff.mp H
  obtain ⟨t173, A30, H⟩ := H
  replace H : ((nat_trim.f k l1).bind fun t176 => (nat_Gcd.l0 k t173 t176)) = some r := H
  have A3 := Aside0.mk A30
  clear A30
  replace H := Option.bind_eq_some_iff.mp H
  obtain ⟨t176, A40, H⟩ := H
  replace H : (nat_Gcd.l0 k t173 t176) = some r := H
  have A4 := Aside0.mk A40
  clear A40
  have H' := Aside0.mk H
  clear H
  go_enter Try.func48, Try.ntmps48
  go_wp2_with (first | ((with_reducible refine z16q (f := 50) rfl ?_); refine goesL_ (some 9) rfl rfl Try.func50 (by kernel_rfl) rfl #[.slice A0 l0.length c0] rfl (by (try simp only [List.map_toArray, List.map_cons, List.map_nil]); first | done | rfl | (simp only [List.length_drop, List.length_take]; rfl)) ?_; (with_reducible refine (nat_trim.calls k _ _ l0 t173 _ ?side1 ?side2 A3.out).mono ?_); (case side1 => repeat (first | exact HR0.out | (with_reducible refine Kd.C_alloc ?_ _) | (with_reducible refine Kd.C_drewN ?_ _) | (with_reducible refine Kd.C_drew ?_))); (case side2 => exact HC0.out); rintro e w5 ⟨v174, rfl, ho0, hb⟩; refine ⟨_, rfl, ?_⟩; have n0_ := Aside0.mk (Kd.R_lower ho0 (z10q (by repeat (first | (with_reducible first | exact HB.out | apply z02q | apply z00q | apply z01q) | exact HB.out)))); have n1_ := Aside0.mk (z11q (by repeat (first | (with_reducible first | exact HB.out | apply z02q | apply z00q | apply z01q) | exact HB.out)) hb); clear HB; have HO175 := n0_; have HB := n1_; clear n0_ n1_; (try clear hb); (try clear hb2); (try clear hk); (try clear hi); (try clear ho0)) | ((with_reducible refine z16q (f := 50) rfl ?_); refine goesL_ (some 11) rfl rfl Try.func50 (by kernel_rfl) rfl #[.slice A1 l1.length c1] rfl (by (try simp only [List.map_toArray, List.map_cons, List.map_nil]); first | done | rfl | (simp only [List.length_drop, List.length_take]; rfl)) ?_; (with_reducible refine (nat_trim.calls k _ _ l1 t176 _ ?side1 ?side2 A4.out).mono ?_); (case side1 => repeat (first | exact (Kd.C_below HR1.out HB.out) | (with_reducible refine Kd.C_alloc ?_ _) | (with_reducible refine Kd.C_drewN ?_ _) | (with_reducible refine Kd.C_drew ?_))); (case side2 => exact HC1.out); rintro e w6 ⟨v177, rfl, ho0, hb⟩; refine ⟨_, rfl, ?_⟩; have n0_ := Aside0.mk (Kd.R_elder' (by (with_reducible repeat (first | apply Kd.R_alloc | apply Kd.R_drewN | apply Kd.R_drew)); exact HO175.out) (Kd.R_base ho0) hb); have n1_ := Aside0.mk (Kd.R_lower (Kd.R_new' ho0 (Kd.R_lt (by (with_reducible repeat (first | apply Kd.R_alloc | apply Kd.R_drewN | apply Kd.R_drew)); exact HO175.out))) (z10q (by repeat (first | (with_reducible first | exact HB.out | apply z02q | apply z00q | apply z01q) | exact HB.out)))); have n2_ := Aside0.mk (z11q (by repeat (first | (with_reducible first | exact HB.out | apply z02q | apply z00q | apply z01q) | exact HB.out)) hb); clear HO175; clear HB; have HO175 := n0_; have HO178 := n1_; have HB := n2_; clear n0_ n1_ n2_; (try clear hb); (try clear hb2); (try clear hk); (try clear hi); (try clear ho0)))
  go_loopg [0, 1] k (fun kq v0 v1 w' => ∃ (x0_1 : List Int) (x1_1 : List Int), Aside0 (nat_Gcd.l0 kq x0_1 x1_1 = some r) ∧ Aside0 (kq ≤ k) ∧ Aside0 (Kd.R (Kd.int .u32) 96 w' w.heap.size (fun k_ => some k_ ≠ (v1 : Value).ownBlock) v0 x0_1) ∧ Aside0 (Kd.R (Kd.int .u32) 96 w' w.heap.size (fun k_ => some k_ ≠ (v0 : Value).ownBlock) v1 x1_1) ∧ Aside0 (Below w.heap.size w w'))
  case atStart => exact ⟨(t173), (t176), H', ⟨Nat.le_refl _⟩, ⟨by (with_reducible repeat (first | apply Kd.R_alloc | apply Kd.R_drewN | apply Kd.R_drew)); exact Kd.R_mono HO175.out (fun _ hk => hk.2)⟩, ⟨by (with_reducible repeat (first | apply Kd.R_alloc | apply Kd.R_drewN | apply Kd.R_drew)); exact Kd.R_mono HO178.out (fun _ hk => hk.2)⟩, ⟨by repeat (first | (with_reducible first | exact HB.out | apply z02q | apply z00q | apply z01q) | exact HB.out)⟩⟩
  case round =>
    clear H'
    try clear c1
    try clear p2
    try clear c4
    try clear c5
    obtain ⟨x0_1, x1_1, HA, HK1, HO_0, HO_1, HB⟩ := hrel
    cases gk with
    | zero => exact absurd HA.out (by simp [nat_Gcd.l0])
    | succ k1 =>
      have H := HA.out
      clear HA
      simp only [nat_Gcd.l0] at H
      by_cases c7 : (x1_1.length : Int) > 0
      · rw [if_pos c7] at H
        have c7b0 : decide (0 < (x1_1.length : Int)) = true := decide_eq_true c7
        have c7b1 : decide (0 < x1_1.length) = true := decide_eq_true (by omega)
        clear c7
        replace H := Option.bind_eq_some_iff.mp H
        obtain ⟨⟨t179, t180, t181⟩, A80, H⟩ := H
        replace H : (nat_Gcd.l0 k1 x1_1 t180) = some r := H
        have A8 := Aside0.mk A80
        clear A80
        have H' := Aside0.mk H
        clear H
        obtain ⟨Ao9, co9, eo9⟩ := Kd.R_slice HO_1.out
        subst eo9
        obtain ⟨Ao10, co10, eo10⟩ := Kd.R_slice HO_0.out
        subst eo10
        go_wp2_with (first | ((with_reducible refine z16q (f := 49) rfl ?_); refine goesL_ (some 18) rfl rfl Try.func49 (by kernel_rfl) rfl #[.slice Ao10 x0_1.length co10, .slice Ao9 x1_1.length co9] rfl (by (try simp only [List.map_toArray, List.map_cons, List.map_nil]); first | done | rfl | (simp only [List.length_drop, List.length_take]; rfl)) ?_; (with_reducible refine (nat_DivMod.calls _ _ x0_1 _ _ x1_1 t179 t180 t181 _ ?side1 ?side2 ?side3 ?side4 A8.out).mono ?_); (case side1 => repeat (first | exact (Kd.R_reads' HO_0.out).2.2 | (with_reducible refine Kd.C_alloc ?_ _) | (with_reducible refine Kd.C_drewN ?_ _) | (with_reducible refine Kd.C_drew ?_))); (case side2 => exact (Kd.R_reads' HO_0.out).2.1); (case side3 => repeat (first | exact (Kd.R_reads' HO_1.out).2.2 | (with_reducible refine Kd.C_alloc ?_ _) | (with_reducible refine Kd.C_drewN ?_ _) | (with_reducible refine Kd.C_drew ?_))); (case side4 => exact (Kd.R_reads' HO_1.out).2.1); rintro e w11 ⟨v182, v184, rfl, ho0, ho1, hb⟩; refine ⟨_, rfl, ?_⟩; have n0_ := Aside0.mk (Kd.R_mono (Kd.R_told (Kd.R_told (Kd.R_old (by (with_reducible repeat (first | apply Kd.R_alloc | apply Kd.R_drewN | apply Kd.R_drew)); exact HO_0.out) hb) (Kd.R_base ho0)) (Kd.R_base ho1)) (fun _ h_ => h_.1)); have n1_ := Aside0.mk (Kd.R_mono (Kd.R_told (Kd.R_told (Kd.R_old (by (with_reducible repeat (first | apply Kd.R_alloc | apply Kd.R_drewN | apply Kd.R_drew)); exact HO_1.out) hb) (Kd.R_base ho0)) (Kd.R_base ho1)) (fun _ h_ => h_.1)); have n2_ := Aside0.mk (Kd.R_lower (Kd.R_new' (Kd.R_new' ho0 (Kd.R_lt (by (with_reducible repeat (first | apply Kd.R_alloc | apply Kd.R_drewN | apply Kd.R_drew)); exact HO_0.out))) (Kd.R_lt (by (with_reducible repeat (first | apply Kd.R_alloc | apply Kd.R_drewN | apply Kd.R_drew)); exact HO_1.out))) (z10q (by repeat (first | (with_reducible first | exact HB.out | apply z02q | apply z00q | apply z01q) | exact HB.out)))); have n3_ := Aside0.mk (Kd.R_lower (Kd.R_new' (Kd.R_new' ho1 (Kd.R_lt (by (with_reducible repeat (first | apply Kd.R_alloc | apply Kd.R_drewN | apply Kd.R_drew)); exact HO_0.out))) (Kd.R_lt (by (with_reducible repeat (first | apply Kd.R_alloc | apply Kd.R_drewN | apply Kd.R_drew)); exact HO_1.out))) (z10q (by repeat (first | (with_reducible first | exact HB.out | apply z02q | apply z00q | apply z01q) | exact HB.out)))); have n4_ := Aside0.mk (z11q (by repeat (first | (with_reducible first | exact HB.out | apply z02q | apply z00q | apply z01q) | exact HB.out)) hb); clear HO_0; clear HO_1; clear HB; have HO_0 := n0_; have HO_1 := n1_; have HO183 := n2_; have HO185 := n3_; have HB := n4_; clear n0_ n1_ n2_ n3_ n4_; (try clear hb); (try clear hb2); (try clear hk); (try clear hi); (try clear ho0); (try clear ho1)))
        go_roundg k1
        case measure => have := HK1.out; omega
        case rel => exact ⟨(x1_1), (t180), H', ⟨by have := HK1.out; omega⟩, ⟨by (with_reducible repeat (first | apply Kd.R_alloc | apply Kd.R_drewN | apply Kd.R_drew)); exact Kd.R_mono HO_1.out (fun _ hk => hk.2)⟩, ⟨by (with_reducible repeat (first | apply Kd.R_alloc | apply Kd.R_drewN | apply Kd.R_drew)); exact Kd.R_mono HO185.out (fun _ hk => hk.2)⟩, ⟨by repeat (first | (with_reducible first | exact HB.out | apply z02q | apply z00q | apply z01q) | exact HB.out)⟩⟩
      · rw [if_neg c7] at H
        have c7b0 : decide (0 < (x1_1.length : Int)) = false := decide_eq_false c7
        have c7b1 : decide (0 < x1_1.length) = false := decide_eq_false (by omega)
        clear c7
        obtain rfl := Option.some.inj H
        obtain ⟨Ao12, co12, eo12⟩ := Kd.R_slice HO_1.out
        subst eo12
        go_wp2
        go_ret
        exact ⟨_, by first | rfl | (simp [z14q, z13q] <;> rfl) | (simp [*, z14q, z13q] <;> rfl), by (with_reducible repeat (first | apply Kd.R_alloc | apply Kd.R_drewN | apply Kd.R_drew)); exact Kd.R_mono HO_0.out (fun _ hk => trivial), by repeat (first | (with_reducible first | exact HB.out | apply z02q | apply z00q | apply z01q) | exact HB.out)⟩
def slices_Reverse_byte_byte.l0 : Nat → List Int → Int → Int → Option (List Int)
  | 0, _, _, _ => none
  | k + 1, x0, x2, x3 => if x2 < x3 then (if 0 ≤ x3 then (if x3 < (x0.length : Int) then (if 0 ≤ x2 then (if x2 < (x0.length : Int) then (slices_Reverse_byte_byte.l0 k ((x0.set (x2 : Int).toNat (rd x0 x3)).set (x3 : Int).toNat (rd x0 x2)) (wrap64 (x2 + 1)) (wrap64 (x3 - 1))) else (none)) else (none)) else (none)) else (none)) else (some x0)
def slices_Reverse_byte_byte.f (k : Nat) (l0 : List Int) : Option (List Int) := slices_Reverse_byte_byte.l0 k l0 0 (wrap64 ((l0.length : Int) - 1))
theorem slices_Reverse_byte_byte.mono_l : ∀ k, (∀ y0 y1 y2, LeO (slices_Reverse_byte_byte.l0 k y0 y1 y2) (slices_Reverse_byte_byte.l0 (k + 1) y0 y1 y2))
  | 0 => fun _ _ _ r h => by simp [slices_Reverse_byte_byte.l0] at h
  | k + 1 => by
    have ih0 := slices_Reverse_byte_byte.mono_l k
    · intro y0 y1 y2
      unfold slices_Reverse_byte_byte.l0
      repeat' first
      | (with_reducible exact ih0 _ _ _)
      | (with_reducible exact LeO.refl _)
      | (with_reducible exact LeO.none _)
      | (with_reducible refine LeO.ite ?_ ?_)
      | (with_reducible refine LeO.bind ?_ (fun _ => ?_))
      | exact ih0 _ _ _
      | exact LeO.none _
      | refine LeO.ite ?_ ?_
      | refine LeO.bind ?_ (fun _ => ?_)
theorem slices_Reverse_byte_byte.mono : ∀ a0 k, LeO (slices_Reverse_byte_byte.f k a0) (slices_Reverse_byte_byte.f (k + 1) a0) := by
  intro a0 k
  have ih0 := slices_Reverse_byte_byte.mono_l k
  unfold slices_Reverse_byte_byte.f
  repeat' first
      | (with_reducible exact ih0 _ _ _)
      | (with_reducible exact LeO.refl _)
      | (with_reducible exact LeO.none _)
      | (with_reducible refine LeO.ite ?_ ?_)
      | (with_reducible refine LeO.bind ?_ (fun _ => ?_))
      | exact ih0 _ _ _
      | exact LeO.none _
      | refine LeO.ite ?_ ?_
      | refine LeO.bind ?_ (fun _ => ?_)
def slices_Reverse_byte_byte.T3 : Bool × List (List Nat × List Nat) := (true, [([], []), ([], []), ([], []), ([], []), ([], []), ([], []), ([4, 5], [4, 5]), ([6], [6]), ([], []), ([], []), ([8, 9], [8, 9]), ([10], [10]), ([0, 1, 0, 1, 4, 5, 6, 7, 11], [0, 1]), ([12, 7, 0, 1, 4, 5, 6, 7, 11], [7, 12]), ([2, 3, 0, 1, 2, 3, 4, 5, 6, 7, 8, 9, 10, 11, 12, 13], [2, 3]), ([14, 11, 13, 0, 1, 2, 3, 4, 5, 6, 7, 8, 9, 10, 11, 12, 13], [11, 14])])
def slices_Reverse_byte_byte.B3 : List Nat := [0, 0, 0, 0, 0, 0, 48, 112, 0, 0, 768, 1792, 4083, 8179, 16383, 32767]
theorem slices_Reverse_byte_byte.tab3 : rtab .any (opsOf Try.f52 3) = slices_Reverse_byte_byte.T3 := by kernel_rfl
theorem slices_Reverse_byte_byte.bits3 : waitsOk slices_Reverse_byte_byte.T3.2 slices_Reverse_byte_byte.B3 = true := by kernel_rfl
set_option maxHeartbeats 8000000 in
set_option maxRecDepth 100000 in
theorem slices_Reverse_byte_byte.calls (k : Nat) (P0_ : Nat → Prop) (u9000_ : Value) (l0 : List Int) (r : List Int) (w0 w : World) (hB : Below w0.heap.size w0 w) (ho0 : Kd.R (Kd.int .u8) 5 w w0.heap.size P0_ u9000_ l0) (h : slices_Reverse_byte_byte.f k l0 = some r) :
    Calls Try.prog 52 #[u9000_] w fun e w' => e = .returned (.tuple #[]) ∧ Kd.R (Kd.int .u8) 5 w' w0.heap.size (fun k_ => (P0_ k_ ∨ w.heap.size ≤ k_)) u9000_ r ∧ Below w0.heap.size w0 w' ∧ Kept w w' (fun k_ => P0_ k_) := by
  have HO0 := Aside0.mk (show Kd.R (Kd.int .u8) 5 w w0.heap.size (fun k_ => (P0_ k_ ∨ w.heap.size ≤ k_)) u9000_ l0 from Kd.R_mono ho0 (fun k_ hk => (.inl hk)))
  have HK := Aside0.mk (Kept.refl w (fun k_ => P0_ k_))
  have HW0 := Aside0.mk hB.size
  have HB := Aside0.mk hB
  clear hB
  have H : (slices_Reverse_byte_byte.l0 k l0 0 (wrap64 ((l0.length : Int) - 1))) = some r := h
  clear h
  have H' := Aside0.mk H
  clear H
  obtain ⟨Ao2, co2, eo2⟩ := Kd.R_slice HO0.out
  subst eo2
  go_enter Try.func52, Try.ntmps52
  go_wp2
  go_loopg [2, 3] k (fun kq v2 v3 w' => ∃ (x0_1 : List Int) (x2_1 : Int) (x3_1 : Int), v2 = .int .i64 x2_1 ∧ v3 = .int .i64 x3_1 ∧ Aside0 (slices_Reverse_byte_byte.l0 kq x0_1 x2_1 x3_1 = some r) ∧ Aside0 (kq ≤ k) ∧ Aside0 (Kd.R (Kd.int .u8) 5 w' w0.heap.size (fun k_ => (P0_ k_ ∨ w.heap.size ≤ k_)) (.slice Ao2 l0.length co2) x0_1) ∧ Aside0 (Kept w w' (fun k_ => P0_ k_)) ∧ Aside0 (Below w0.heap.size w0 w'))
  case atStart => exact ⟨(l0), (0), (wrap64 ((l0.length : Int) - 1)), (by first | rfl | (simp; done) | (simp [*]; done)), (by first | rfl | (simp; done) | (simp [*]; done)), H', ⟨Nat.le_refl _⟩, ⟨by (with_reducible repeat (first | apply Kd.R_alloc | apply Kd.R_drewN | apply Kd.R_drew)); exact HO0.out⟩, ⟨by repeat (first | (with_reducible first | exact HK.out | apply Kept.alloc | apply Kept.drewN | apply Kept.drew) | exact HK.out)⟩, ⟨by repeat (first | (with_reducible first | exact HB.out | apply z02q | apply z00q | apply z01q) | exact HB.out)⟩⟩
  case round =>
    clear H'
    try clear p2
    obtain ⟨x0_1, x2_1, x3_1, rfl, rfl, HA, HK1, HO_0, HK, HB⟩ := hrel
    have hl0_1 := (Kd.R_reads' HO_0.out).1
    rw [hl0_1] at HO_0
    (try simp only [hl0_1])
    cases gk with
    | zero => exact absurd HA.out (by simp [slices_Reverse_byte_byte.l0])
    | succ k1 =>
      have H := HA.out
      clear HA
      simp only [slices_Reverse_byte_byte.l0] at H
      by_cases c3 : x2_1 < x3_1
      · rw [if_pos c3] at H
        have c3b0 : decide (x2_1 < x3_1) = true := decide_eq_true c3
        clear c3
        by_cases c4 : 0 ≤ x3_1
        · rw [if_pos c4] at H
          have c4b0 : decide (0 ≤ x3_1) = true := decide_eq_true c4
          clear c4
          by_cases c5 : x3_1 < (x0_1.length : Int)
          · rw [if_pos c5] at H
            have c5b0 : decide (x3_1 < (x0_1.length : Int)) = true := decide_eq_true c5
            (try (have c5b0l := c5b0; simp only [hl0_1] at c5b0l))
            clear c5
            by_cases c6 : 0 ≤ x2_1
            · rw [if_pos c6] at H
              have c6b0 : decide (0 ≤ x2_1) = true := decide_eq_true c6
              clear c6
              by_cases c7 : x2_1 < (x0_1.length : Int)
              · rw [if_pos c7] at H
                have c7b0 : decide (x2_1 < (x0_1.length : Int)) = true := decide_eq_true c7
                (try (have c7b0l := c7b0; simp only [hl0_1] at c7b0l))
                clear c7
                obtain ⟨y188, hy188⟩ : ∃ y_ : List Int, y_ = (x0_1.set (x2_1 : Int).toNat (rd x0_1 x3_1)) := ⟨_, rfl⟩
                replace H : (slices_Reverse_byte_byte.l0 k1 (y188.set (x3_1 : Int).toNat (rd x0_1 x2_1)) (wrap64 (x2_1 + 1)) (wrap64 (x3_1 - 1))) = some r := by first | (rw [hy188]; with_reducible exact H) | (have H2_ := (Option.bind_some _ _).symm.trans H; rw [hy188]; with_reducible exact H2_) | (have H2_ := (Option.bind_some _ _).symm.trans H; with_reducible exact H2_) | with_reducible exact H | (rw [hy188]; exact H) | exact H
                have Ny188 := Aside0.mk hy188
                clear hy188
                obtain ⟨y189, hy189⟩ : ∃ y_ : List Int, y_ = (y188.set (x3_1 : Int).toNat (rd x0_1 x2_1)) := ⟨_, rfl⟩
                replace H : (slices_Reverse_byte_byte.l0 k1 y189 (wrap64 (x2_1 + 1)) (wrap64 (x3_1 - 1))) = some r := by first | (rw [hy189]; with_reducible exact H) | (have H2_ := (Option.bind_some _ _).symm.trans H; rw [hy189]; with_reducible exact H2_) | (have H2_ := (Option.bind_some _ _).symm.trans H; with_reducible exact H2_) | with_reducible exact H | (rw [hy189]; exact H) | exact H
                have Ny189 := Aside0.mk hy189
                clear hy189
                have H' := Aside0.mk H
                clear H
                try go_wp2
                have n0_ := Aside0.mk (Kd.R_drew HO_0.out)
                have n1_ := Aside0.mk (Kept.drew HK.out)
                have n2_ := Aside0.mk (z01q HB.out)
                clear HO_0
                clear HK
                clear HB
                have HO_0 := n0_
                have HK := n1_
                have HB := n2_
                clear n0_ n1_ n2_
                have p186 : 0 ≤ (x3_1 : Int) := of_decide_eq_true (by first | (with_reducible assumption) | assumption)
                have q186 : x3_1 < (x0_1.length : Int) := of_decide_eq_true (by first | (with_reducible assumption) | assumption)
                obtain ⟨ad186, e186, hx186_0⟩ := Kd.at_int (Kd.R_reads' HO_0.out).2.2 x3_1 p186 q186
                cases e186
                replace p186 := eq_true p186
                replace q186 := eq_true q186
                have p187 : 0 ≤ (x2_1 : Int) := of_decide_eq_true (by first | (with_reducible assumption) | assumption)
                have q187 : x2_1 < (x0_1.length : Int) := of_decide_eq_true (by first | (with_reducible assumption) | assumption)
                obtain ⟨ad187, e187, hx187_0⟩ := Kd.at_int (Kd.R_reads' HO_0.out).2.2 x2_1 p187 q187
                obtain rfl : ad186 = ad187 := (by injection e187)
                replace p187 := eq_true p187
                replace q187 := eq_true q187
                have p8 : 0 ≤ (x2_1 : Int) := of_decide_eq_true (by first | (with_reducible assumption) | assumption)
                have q8 : (x2_1 : Int) < ((x0_1.length : Int) : Int) := of_decide_eq_true (by first | (with_reducible assumption) | assumption)
                obtain ⟨go8, co8, eo8, gb8, gl8, cl8, HG8⟩ := Kd.R_form HO_0.out (by omega)
                (first | cases eo8 | (injection eo8 with ea_ en_ ec_; (first | subst ea_ | (injection ea_ with ea_; subst ea_)); subst ec_; clear en_))
                have GB8 := Aside0.mk gb8
                have GG8 := Aside0.mk HG8
                clear gb8 gl8 HG8
                have HMgo8 := Aside0.mk (show (P0_ go8 ∨ w.heap.size ≤ go8) from (HO_0.out.1 _ rfl))
                (first | simp only [add_plain] at hx186_0 | skip)
                (first | simp only [add_plain] at hx187_0 | skip)
                obtain ⟨hx8_0, hf8_0⟩ := Kd.R_celln 0 HO_0.out (x2_1 : Int) p8 q8
                replace p8 := eq_true p8
                replace q8 := eq_true q8
                have HP11 := Kd.R_putn HO_0.out (x2_1 : Int) (rd x0_1 x3_1)
                rw [← Ny188.out] at HP11
                have HQ11 := Aside0.mk HP11
                clear HP11
                have p9 : 0 ≤ (x3_1 : Int) := of_decide_eq_true (by first | (with_reducible assumption) | assumption)
                have q9 : (x3_1 : Int) < ((x0_1.length : Int) : Int) := of_decide_eq_true (by first | (with_reducible assumption) | assumption)
                obtain ⟨hx9_0, hf9_0⟩ := Kd.R_celln 0 HQ11.out (x3_1 : Int) p9 q9
                replace p9 := eq_true p9
                replace q9 := eq_true q9
                have HP12 := Kd.R_putn HQ11.out (x3_1 : Int) (rd x0_1 x2_1)
                rw [← Ny189.out] at HP12
                have HQ12 := Aside0.mk HP12
                clear HP12
                refine start_ (n := 16) (S := fun w' => w'.cell? ⟨go8, (x3_1).toNat, none⟩ = some (.int .u8 (rd x0_1 x3_1)) ∧ w'.cell? ⟨go8, (x2_1).toNat, none⟩ = some (.int .u8 (rd x0_1 x2_1))) (ds := [13, 15]) #[false, false, false, false, false, false, false, false, false, false, false, false, false, false, false, false] (by kernel_rfl) rfl rfl ⟨hx186_0, hx187_0⟩ (fun hHeld => ?_); refine with_tabW slices_Reverse_byte_byte.tab3 slices_Reverse_byte_byte.bits3 (fun HT_ HW_ => ?_)
                generalize wr.drew = w10 at HO_0 HK HB GG8 HQ11 HQ12 hf8_0 hf9_0 hx186_0 hx187_0 hx8_0 hx9_0 hHeld ⊢
                refine pure_ (i := 0) (N := some 14) (v := ?_) (a' := ?_) #[true, false, false, false, false, false, false, false, false, false, false, false, false, false, false, false] rfl rfl (any_of HT_.out (by kernel_rfl)) (fun _ _ _ h => h) (Or.inl ⟨by rfl, ?_⟩) ?_ ?_
                rotate_left
                · intro w'
                  go_simp
                  with_reducible rfl
                rotate_left
                · simp only [Act.put, List.setIfInBounds_toArray, List.set_cons_zero, List.set_cons_succ, i64_w, i32_w]
                  rfl
                refine pure_ (i := 1) (N := some 15) (v := ?_) (a' := ?_) #[true, true, false, false, false, false, false, false, false, false, false, false, false, false, false, false] rfl rfl (any_of HT_.out (by kernel_rfl)) (fun _ _ _ h => h) (Or.inl ⟨by rfl, ?_⟩) ?_ ?_
                rotate_left
                · intro w'
                  go_simp
                  with_reducible rfl
                rotate_left
                · simp only [Act.put, List.setIfInBounds_toArray, List.set_cons_zero, List.set_cons_succ, i64_w, i32_w]
                  rfl
                refine pure_ (i := 2) (N := some 16) (v := ?_) (a' := ?_) #[true, true, true, false, false, false, false, false, false, false, false, false, false, false, false, false] rfl rfl (any_of HT_.out (by kernel_rfl)) (fun _ _ _ h => h) (Or.inl ⟨by rfl, ?_⟩) ?_ ?_
                rotate_left
                · intro w'
                  go_simp
                  with_reducible rfl
                rotate_left
                · simp only [Act.put, List.setIfInBounds_toArray, List.set_cons_zero, List.set_cons_succ, i64_w, i32_w]
                  rfl
                refine pure_ (i := 3) (N := some 17) (v := ?_) (a' := ?_) #[true, true, true, true, false, false, false, false, false, false, false, false, false, false, false, false] rfl rfl (any_of HT_.out (by kernel_rfl)) (fun _ _ _ h => h) (Or.inl ⟨by rfl, ?_⟩) ?_ ?_
                rotate_left
                · intro w'
                  go_simp
                  with_reducible rfl
                rotate_left
                · simp only [Act.put, List.setIfInBounds_toArray, List.set_cons_zero, List.set_cons_succ, i64_w, i32_w]
                  rfl
                refine pure_ (i := 4) (N := some 18) (v := ?_) (a' := ?_) #[true, true, true, true, true, false, false, false, false, false, false, false, false, false, false, false] rfl rfl (any_of HT_.out (by kernel_rfl)) (fun _ _ _ h => h) (Or.inl ⟨by rfl, ?_⟩) ?_ ?_
                rotate_left
                · intro w'
                  go_simp
                  with_reducible rfl
                rotate_left
                · simp only [Act.put, List.setIfInBounds_toArray, List.set_cons_zero, List.set_cons_succ, i64_w, i32_w]
                  rfl
                refine pure_ (i := 5) (N := some 19) (v := ?_) (a' := ?_) #[true, true, true, true, true, true, false, false, false, false, false, false, false, false, false, false] rfl rfl (any_of HT_.out (by kernel_rfl)) (fun _ _ _ h => h) (Or.inl ⟨by rfl, ?_⟩) ?_ ?_
                rotate_left
                · intro w'
                  go_simp
                  with_reducible rfl
                rotate_left
                · simp only [Act.put, List.setIfInBounds_toArray, List.set_cons_zero, List.set_cons_succ, i64_w, i32_w]
                  rfl
                refine pure_ (i := 6) (N := some 20) (v := ?_) (a' := ?_) #[true, true, true, true, true, true, true, false, false, false, false, false, false, false, false, false] rfl rfl (any_of HT_.out (by kernel_rfl)) (fun _ _ _ h => h) (Or.inl ⟨by rfl, ?_⟩) ?_ ?_
                rotate_left
                · intro w'
                  go_simp
                  with_reducible rfl
                rotate_left
                · simp only [Act.put, List.setIfInBounds_toArray, List.set_cons_zero, List.set_cons_succ, i64_w, i32_w]
                  rfl
                refine pure_ (i := 8) (N := some 22) (v := ?_) (a' := ?_) #[true, true, true, true, true, true, true, false, true, false, false, false, false, false, false, false] rfl rfl (any_of HT_.out (by kernel_rfl)) (fun _ _ _ h => h) (Or.inl ⟨by rfl, ?_⟩) ?_ ?_
                rotate_left
                · intro w'
                  go_simp
                  with_reducible rfl
                rotate_left
                · simp only [Act.put, List.setIfInBounds_toArray, List.set_cons_zero, List.set_cons_succ, i64_w, i32_w]
                  rfl
                refine pure_ (i := 9) (N := some 23) (v := ?_) (a' := ?_) #[true, true, true, true, true, true, true, false, true, true, false, false, false, false, false, false] rfl rfl (any_of HT_.out (by kernel_rfl)) (fun _ _ _ h => h) (Or.inl ⟨by rfl, ?_⟩) ?_ ?_
                rotate_left
                · intro w'
                  go_simp
                  with_reducible rfl
                rotate_left
                · simp only [Act.put, List.setIfInBounds_toArray, List.set_cons_zero, List.set_cons_succ, i64_w, i32_w]
                  rfl
                refine pure_ (i := 10) (N := some 24) (v := ?_) (a' := ?_) #[true, true, true, true, true, true, true, false, true, true, true, false, false, false, false, false] rfl rfl (any_of HT_.out (by kernel_rfl)) (fun _ _ _ h => h) (Or.inl ⟨by rfl, ?_⟩) ?_ ?_
                rotate_left
                · intro w'
                  go_simp
                  with_reducible rfl
                rotate_left
                · simp only [Act.put, List.setIfInBounds_toArray, List.set_cons_zero, List.set_cons_succ, i64_w, i32_w]
                  rfl
                refine take_ (i := 7) (N := some 21) (v := ?_) (a' := ?_) #[true, true, true, true, true, true, true, true, true, true, true, false, false, false, false, false] rfl rfl (z29q HT_.out HW_.out (by kernel_rfl)) (fun _ _ _ h => h) (Or.inl ⟨by rfl, ?_⟩) hHeld ?_ ?_
                rotate_left
                · rintro w' ⟨s0, s1⟩
                  go_simp
                  with_reducible rfl
                rotate_left
                · simp only [Act.put, List.setIfInBounds_toArray, List.set_cons_zero, List.set_cons_succ, i64_w, i32_w]
                  rfl
                refine take_ (i := 11) (N := some 25) (v := ?_) (a' := ?_) #[true, true, true, true, true, true, true, true, true, true, true, true, false, false, false, false] rfl rfl (z29q HT_.out HW_.out (by kernel_rfl)) (fun _ _ _ h => h) (Or.inl ⟨by rfl, ?_⟩) hHeld ?_ ?_
                rotate_left
                · rintro w' ⟨s0, s1⟩
                  go_simp
                  with_reducible rfl
                rotate_left
                · simp only [Act.put, List.setIfInBounds_toArray, List.set_cons_zero, List.set_cons_succ, i64_w, i32_w]
                  rfl
                refine pure_ (i := 12) (N := some 26) (v := ?_) (a' := ?_) #[true, true, true, true, true, true, true, true, true, true, true, true, true, false, false, false] rfl rfl (any_of HT_.out (by kernel_rfl)) (fun _ _ _ h => h) (Or.inl ⟨by rfl, ?_⟩) ?_ ?_
                rotate_left
                · intro w'
                  go_simp
                  with_reducible rfl
                rotate_left
                · simp only [Act.put, List.setIfInBounds_toArray, List.set_cons_zero, List.set_cons_succ, i64_w, i32_w]
                  rfl
                refine last_ (i := 13) (N := none) #[true, true, true, true, true, true, true, true, true, true, true, true, true, true, false, false] rfl rfl (one_of HT_.out (by kernel_rfl)) (by decide) (fun K hK => ?_)
                refine skip_ (w1 := ?_) (by rfl) rfl ?_ ?_
                rotate_left
                · go_simp
                  rfl
                refine hK.out _ _ ?_
                clear hK K
                refine pure_ (i := 14) (N := some 27) (v := ?_) (a' := ?_) #[true, true, true, true, true, true, true, true, true, true, true, true, true, true, true, false] rfl rfl (any_of HT_.out (by kernel_rfl)) (fun _ _ _ h => h) (Or.inl ⟨by rfl, ?_⟩) ?_ ?_
                rotate_left
                · intro w'
                  go_simp
                  with_reducible rfl
                rotate_left
                · simp only [Act.put, List.setIfInBounds_toArray, List.set_cons_zero, List.set_cons_succ, i64_w, i32_w]
                  rfl
                refine last_ (i := 15) (N := none) #[true, true, true, true, true, true, true, true, true, true, true, true, true, true, true, true] rfl rfl (one_of HT_.out (by kernel_rfl)) (by decide) (fun K hK => ?_)
                refine skip_ (w1 := ?_) (by rfl) rfl ?_ ?_
                rotate_left
                · go_simp
                  rfl
                refine hK.out _ _ ?_
                clear hK K
                refine done_ (done_of HT_.out (by kernel_rfl)) ?_
                try go_wp2
                (try simp only [← hl0_1])
                go_roundg k1
                case measure => have := HK1.out; omega
                case rel => exact ⟨(y189), (wrap64 (x2_1 + 1)), (wrap64 (x3_1 - 1)), (by first | rfl | (simp; done) | (simp [*]; done)), (by first | rfl | (simp; done) | (simp [*]; done)), H', ⟨by have := HK1.out; omega⟩, ⟨by (try simp only [hl0_1]); (with_reducible repeat (first | apply Kd.R_alloc | apply Kd.R_drewN | apply Kd.R_drew)); exact HQ12.out⟩, ⟨by repeat (first | (with_reducible first | exact HK.out | apply Kept.alloc | apply Kept.drewN | apply Kept.drew | refine Kept.setCell ?_ HMgo8.out _ | refine Kept.setCell ?_ HMgo8.out _) | exact HK.out)⟩, ⟨by repeat (first | (with_reducible first | exact HB.out | apply z02q | apply z00q | apply z01q | refine z03q ?_ GB8.out | refine z03q ?_ GB8.out) | exact HB.out)⟩⟩
              · rw [if_neg c7] at H
                exact absurd H (by simp)
            · rw [if_neg c6] at H
              exact absurd H (by simp)
          · rw [if_neg c5] at H
            exact absurd H (by simp)
        · rw [if_neg c4] at H
          exact absurd H (by simp)
      · rw [if_neg c3] at H
        have c3b0 : decide (x2_1 < x3_1) = false := decide_eq_false c3
        clear c3
        obtain rfl := Option.some.inj H
        go_wp2
        first | go_end0 | ((try simp only [Exit.inBlock, Exit.then]); refine bodyPost_ret (results_none rfl _ _ _) rfl ?_)
        exact ⟨by first | rfl | (simp [z14q, z13q] <;> rfl) | (simp [*, z14q, z13q] <;> rfl), (by first | exact (by (with_reducible repeat (first | apply Kd.R_alloc | apply Kd.R_drewN | apply Kd.R_drew)); exact HO_0.out) | (simp only [hl0_1]; exact (by (with_reducible repeat (first | apply Kd.R_alloc | apply Kd.R_drewN | apply Kd.R_drew)); exact HO_0.out))), by repeat (first | (with_reducible first | exact HB.out | apply z02q | apply z00q | apply z01q) | exact HB.out), by repeat (first | (with_reducible first | exact HK.out | apply Kept.alloc | apply Kept.drewN | apply Kept.drew) | exact HK.out)⟩
mutual
def nat_Text.l0 : Nat → List Int → List Int → Option (ByteArray)
  | 0, _, _ => none
  | k + 1, x0, x3 => if (x0.length : Int) > 0 then ((nat_Of.f k 1000000000).bind fun t193 => ((nat_DivMod.f x0 t193).bind fun bt196 => ((nat_Small.f k bt196.2.1).bind fun bt203 => (nat_Text.l1 k x3 bt196.1 bt203.1 0)))) else (nat_Text.l2 k x3)
def nat_Text.l1 : Nat → List Int → List Int → Int → Int → Option (ByteArray)
  | 0, _, _, _, _ => none
  | k + 1, x3, x4, x7, x26 => if x26 < 9 then (if x3.length < 140737488355328 then (nat_Text.l1 k (x3 ++ [(IntKind.u64.wrap (48 + (Int.tmod x7 10))) % 256]) x4 (IntKind.u64.wrap (Int.tdiv x7 10)) (wrap64 (x26 + 1))) else (none)) else (nat_Text.l0 k x4 x3)
def nat_Text.l2 : Nat → List Int → Option (ByteArray)
  | 0, _ => none
  | k + 1, x3 => if (x3.length : Int) > 1 then (if 0 ≤ (wrap64 ((x3.length : Int) - 1)) then (if (wrap64 ((x3.length : Int) - 1)) < (x3.length : Int) then (if (rd x3 (wrap64 ((x3.length : Int) - 1))) = 48 then (if (wrap64 ((x3.length : Int) - 1)) ≤ (x3.length : Int) then (nat_Text.l2 k (x3.take ((wrap64 ((x3.length : Int) - 1)) : Int).toNat)) else (none)) else (if (x3.length : Int) = 0 then (some (⟨#[48]⟩ : ByteArray)) else ((slices_Reverse_byte_byte.f k x3).bind fun t212 => (some (strOfNums t212))))) else (none)) else (none)) else (if (x3.length : Int) = 0 then (some (⟨#[48]⟩ : ByteArray)) else ((slices_Reverse_byte_byte.f k x3).bind fun t213 => (some (strOfNums t213))))
end
def nat_Text.f (k : Nat) (l0 : List Int) : Option (ByteArray) := (nat_trim.f k l0).bind fun t190 => (nat_Text.l0 k t190 ([] : List Int))
theorem nat_Text.mono_l : ∀ k, (∀ y0 y1, LeO (nat_Text.l0 k y0 y1) (nat_Text.l0 (k + 1) y0 y1)) ∧ (∀ y0 y1 y2 y3, LeO (nat_Text.l1 k y0 y1 y2 y3) (nat_Text.l1 (k + 1) y0 y1 y2 y3)) ∧ (∀ y0, LeO (nat_Text.l2 k y0) (nat_Text.l2 (k + 1) y0))
  | 0 => ⟨fun _ _ r h => by simp [nat_Text.l0] at h, fun _ _ _ _ r h => by simp [nat_Text.l1] at h, fun _ r h => by simp [nat_Text.l2] at h⟩
  | k + 1 => by
    obtain ⟨ih0, ih1, ih2⟩ := nat_Text.mono_l k
    refine ⟨?_, ?_, ?_⟩
    · intro y0 y1
      unfold nat_Text.l0
      repeat' first
      | (with_reducible exact ih0 _ _)
      | (with_reducible exact ih1 _ _ _ _)
      | (with_reducible exact ih2 _)
      | (with_reducible exact nat_Of.mono _ _)
      | (with_reducible exact nat_Small.mono _ _)
      | (with_reducible exact nat_trim.mono _ _)
      | (with_reducible exact slices_Reverse_byte_byte.mono _ _)
      | (with_reducible exact LeO.refl _)
      | (with_reducible exact LeO.none _)
      | (with_reducible refine LeO.ite ?_ ?_)
      | (with_reducible refine LeO.bind ?_ (fun _ => ?_))
      | exact ih0 _ _
      | exact ih1 _ _ _ _
      | exact ih2 _
      | exact nat_Of.mono _ _
      | exact nat_Small.mono _ _
      | exact nat_trim.mono _ _
      | exact slices_Reverse_byte_byte.mono _ _
      | exact LeO.none _
      | refine LeO.ite ?_ ?_
      | refine LeO.bind ?_ (fun _ => ?_)
    · intro y0 y1 y2 y3
      unfold nat_Text.l1
      repeat' first
      | (with_reducible exact ih0 _ _)
      | (with_reducible exact ih1 _ _ _ _)
      | (with_reducible exact ih2 _)
      | (with_reducible exact nat_Of.mono _ _)
      | (with_reducible exact nat_Small.mono _ _)
      | (with_reducible exact nat_trim.mono _ _)
      | (with_reducible exact slices_Reverse_byte_byte.mono _ _)
      | (with_reducible exact LeO.refl _)
      | (with_reducible exact LeO.none _)
      | (with_reducible refine LeO.ite ?_ ?_)
      | (with_reducible refine LeO.bind ?_ (fun _ => ?_))
      | exact ih0 _ _
      | exact ih1 _ _ _ _
      | exact ih2 _
      | exact nat_Of.mono _ _
      | exact nat_Small.mono _ _
      | exact nat_trim.mono _ _
      | exact slices_Reverse_byte_byte.mono _ _
      | exact LeO.none _
      | refine LeO.ite ?_ ?_
      | refine LeO.bind ?_ (fun _ => ?_)
    · intro y0
      unfold nat_Text.l2
      repeat' first
      | (with_reducible exact ih0 _ _)
      | (with_reducible exact ih1 _ _ _ _)
      | (with_reducible exact ih2 _)
      | (with_reducible exact nat_Of.mono _ _)
      | (with_reducible exact nat_Small.mono _ _)
      | (with_reducible exact nat_trim.mono _ _)
      | (with_reducible exact slices_Reverse_byte_byte.mono _ _)
      | (with_reducible exact LeO.refl _)
      | (with_reducible exact LeO.none _)
      | (with_reducible refine LeO.ite ?_ ?_)
      | (with_reducible refine LeO.bind ?_ (fun _ => ?_))
      | exact ih0 _ _
      | exact ih1 _ _ _ _
      | exact ih2 _
      | exact nat_Of.mono _ _
      | exact nat_Small.mono _ _
      | exact nat_trim.mono _ _
      | exact slices_Reverse_byte_byte.mono _ _
      | exact LeO.none _
      | refine LeO.ite ?_ ?_
      | refine LeO.bind ?_ (fun _ => ?_)
theorem nat_Text.mono : ∀ a0 k, LeO (nat_Text.f k a0) (nat_Text.f (k + 1) a0) := by
  intro a0 k
  obtain ⟨ih0, ih1, ih2⟩ := nat_Text.mono_l k
  unfold nat_Text.f
  repeat' first
      | (with_reducible exact ih0 _ _)
      | (with_reducible exact ih1 _ _ _ _)
      | (with_reducible exact ih2 _)
      | (with_reducible exact nat_Of.mono _ _)
      | (with_reducible exact nat_Small.mono _ _)
      | (with_reducible exact nat_trim.mono _ _)
      | (with_reducible exact slices_Reverse_byte_byte.mono _ _)
      | (with_reducible exact LeO.refl _)
      | (with_reducible exact LeO.none _)
      | (with_reducible refine LeO.ite ?_ ?_)
      | (with_reducible refine LeO.bind ?_ (fun _ => ?_))
      | exact ih0 _ _
      | exact ih1 _ _ _ _
      | exact ih2 _
      | exact nat_Of.mono _ _
      | exact nat_Small.mono _ _
      | exact nat_trim.mono _ _
      | exact slices_Reverse_byte_byte.mono _ _
      | exact LeO.none _
      | refine LeO.ite ?_ ?_
      | refine LeO.bind ?_ (fun _ => ?_)
set_option maxHeartbeats 8000000 in
set_option maxRecDepth 100000 in
theorem nat_Text.calls (k : Nat) (A0 : Option Addr) (c0 : Nat) (l0 : List Int) (r : ByteArray) (w : World) (hr0 : Kd.C (Kd.int .u32) w A0 l0.length l0) (hc0 : l0.length ≤ c0) (h : nat_Text.f k l0 = some r) :
    Calls Try.prog 31 #[.slice A0 l0.length c0] w fun e w' => e = .returned (.string r) ∧ Below w.heap.size w w' := by
  have HR0 := Aside0.mk hr0
  have HC0 := Aside0.mk hc0
  clear hr0 hc0
  have HB := Aside0.mk (Below.refl w.heap.size w)
  have H : ((nat_trim.f k l0).bind fun t190 => (nat_Text.l0 k t190 ([] : List Int))) = some r := h
  clear h
  replace H := Option.bind_eq_some_iff.mp H
  obtain ⟨t190, A20, H⟩ := H
  replace H : (nat_Text.l0 k t190 ([] : List Int)) = some r := H
  have A2 := Aside0.mk A20
  clear A20
  have H' := Aside0.mk H
  clear H
  go_enter Try.func31, Try.ntmps31
  go_wp2_with (first | ((with_reducible refine z16q (f := 50) rfl ?_); refine goesL_ (some 10) rfl rfl Try.func50 (by kernel_rfl) rfl #[.slice A0 l0.length c0] rfl (by (try simp only [List.map_toArray, List.map_cons, List.map_nil]); first | done | rfl | (simp only [List.length_drop, List.length_take]; rfl)) ?_; (with_reducible refine (nat_trim.calls k _ _ l0 t190 _ ?side1 ?side2 A2.out).mono ?_); (case side1 => repeat (first | exact HR0.out | (with_reducible refine Kd.C_alloc ?_ _) | (with_reducible refine Kd.C_drewN ?_ _) | (with_reducible refine Kd.C_drew ?_))); (case side2 => exact HC0.out); rintro e w3 ⟨v191, rfl, ho0, hb⟩; refine ⟨_, rfl, ?_⟩; have n0_ := Aside0.mk (Kd.R_lower ho0 (z10q (by repeat (first | (with_reducible first | exact HB.out | apply z02q | apply z00q | apply z01q) | exact HB.out)))); have n1_ := Aside0.mk (z11q (by repeat (first | (with_reducible first | exact HB.out | apply z02q | apply z00q | apply z01q) | exact HB.out)) hb); clear HB; have HO192 := n0_; have HB := n1_; clear n0_ n1_; (try clear hb); (try clear hb2); (try clear hk); (try clear hi); (try clear ho0)))
  go_loopg [0, 3] k (fun kq v0 v3 w' => ∃ (x0_1 : List Int) (x3_1 : List Int), Aside0 (nat_Text.l0 kq x0_1 x3_1 = some r) ∧ Aside0 (kq ≤ k) ∧ Aside0 (Kd.R (Kd.int .u32) 96 w' w.heap.size (fun _ => True) v0 x0_1) ∧ Aside0 (Kd.R (Kd.int .u8) 5 w' w.heap.size (fun _ => True) v3 x3_1) ∧ Aside0 (Below w.heap.size w w'))
  case atStart => exact ⟨(t190), (([] : List Int)), H', ⟨Nat.le_refl _⟩, ⟨by (with_reducible repeat (first | apply Kd.R_alloc | apply Kd.R_drewN | apply Kd.R_drew)); exact HO192.out⟩, ⟨by first | exact Kd.R_nil _ _ _ _ _ | exact Kd.N_nil _ _ _ _ _ | exact Kd.V_nil _ _ _ _ _ | exact Kd.Q_nil _ _ _ _ _ | exact Kd.S_nil _ _ _ _ _⟩, ⟨by repeat (first | (with_reducible first | exact HB.out | apply z02q | apply z00q | apply z01q) | exact HB.out)⟩⟩
  case round =>
    clear H'
    try clear p2
    try clear c3
    obtain ⟨x0_1, x3_1, HA, HK1, HO_0, HO_3, HB⟩ := hrel
    cases gk with
    | zero => exact absurd HA.out (by simp [nat_Text.l0])
    | succ k1 =>
      have H := HA.out
      clear HA
      simp only [nat_Text.l0] at H
      by_cases c4 : (x0_1.length : Int) > 0
      · rw [if_pos c4] at H
        have c4b0 : decide (0 < (x0_1.length : Int)) = true := decide_eq_true c4
        have c4b1 : decide (0 < x0_1.length) = true := decide_eq_true (by omega)
        clear c4
        replace H := Option.bind_eq_some_iff.mp H
        obtain ⟨t193, A50, H⟩ := H
        replace H : ((nat_DivMod.f x0_1 t193).bind fun bt196 => ((nat_Small.f k1 bt196.2.1).bind fun bt203 => (nat_Text.l1 k1 x3_1 bt196.1 bt203.1 0))) = some r := H
        have A5 := Aside0.mk A50
        clear A50
        replace H := Option.bind_eq_some_iff.mp H
        obtain ⟨⟨t196, t197, t198⟩, A60, H⟩ := H
        replace H : ((nat_Small.f k1 t197).bind fun bt203 => (nat_Text.l1 k1 x3_1 t196 bt203.1 0)) = some r := H
        have A6 := Aside0.mk A60
        clear A60
        replace H := Option.bind_eq_some_iff.mp H
        obtain ⟨⟨t203, t204⟩, A70, H⟩ := H
        replace H : (nat_Text.l1 k1 x3_1 t196 t203 0) = some r := H
        have A7 := Aside0.mk A70
        clear A70
        have H' := Aside0.mk H
        clear H
        obtain ⟨Ao8, co8, eo8⟩ := Kd.R_slice HO_0.out
        subst eo8
        go_wp2_with (first | ((with_reducible refine z16q (f := 38) rfl ?_); refine goesL_ (some 16) rfl rfl Try.func38 (by kernel_rfl) rfl #[.int .u64 1000000000] rfl (by (try simp only [List.map_toArray, List.map_cons, List.map_nil]); first | done | rfl | (simp only [List.length_drop, List.length_take]; rfl)) ?_; (with_reducible refine (nat_Of.calls k1 1000000000 t193 _ A5.out).mono ?_); rintro e w9 ⟨v194, rfl, ho0, hb⟩; refine ⟨_, rfl, ?_⟩; have n0_ := Aside0.mk (Kd.R_elder' (by (with_reducible repeat (first | apply Kd.R_alloc | apply Kd.R_drewN | apply Kd.R_drew)); exact HO_0.out) (Kd.R_base ho0) hb); have n1_ := Aside0.mk (Kd.R_below (by (with_reducible repeat (first | apply Kd.R_alloc | apply Kd.R_drewN | apply Kd.R_drew)); exact HO_3.out) hb); have n2_ := Aside0.mk (Kd.R_lower (Kd.R_new' ho0 (Kd.R_lt (by (with_reducible repeat (first | apply Kd.R_alloc | apply Kd.R_drewN | apply Kd.R_drew)); exact HO_0.out))) (z10q (by repeat (first | (with_reducible first | exact HB.out | apply z02q | apply z00q | apply z01q) | exact HB.out)))); have n3_ := Aside0.mk (z11q (by repeat (first | (with_reducible first | exact HB.out | apply z02q | apply z00q | apply z01q) | exact HB.out)) hb); clear HO_0; clear HO_3; clear HB; have HO_0 := n0_; have HO_3 := n1_; have HO195 := n2_; have HB := n3_; clear n0_ n1_ n2_ n3_; (try clear hb); (try clear hb2); (try clear hk); (try clear hi); (try clear ho0); obtain ⟨Ao10, co10, eo10⟩ := Kd.R_slice HO195.out; subst eo10) | ((with_reducible refine z16q (f := 49) rfl ?_); refine goesL_ (some 17) rfl rfl Try.func49 (by kernel_rfl) rfl #[.slice Ao8 x0_1.length co8, .slice Ao10 t193.length co10] rfl (by (try simp only [List.map_toArray, List.map_cons, List.map_nil]); first | done | rfl | (simp only [List.length_drop, List.length_take]; rfl)) ?_; (with_reducible refine (nat_DivMod.calls _ _ x0_1 _ _ t193 t196 t197 t198 _ ?side1 ?side2 ?side3 ?side4 A6.out).mono ?_); (case side1 => repeat (first | exact (Kd.R_reads' HO_0.out).2.2 | (with_reducible refine Kd.C_alloc ?_ _) | (with_reducible refine Kd.C_drewN ?_ _) | (with_reducible refine Kd.C_drew ?_))); (case side2 => exact (Kd.R_reads' HO_0.out).2.1); (case side3 => repeat (first | exact (Kd.R_reads' HO195.out).2.2 | (with_reducible refine Kd.C_alloc ?_ _) | (with_reducible refine Kd.C_drewN ?_ _) | (with_reducible refine Kd.C_drew ?_))); (case side4 => exact (Kd.R_reads' HO195.out).2.1); rintro e w11 ⟨v199, v201, rfl, ho0, ho1, hb⟩; refine ⟨_, rfl, ?_⟩; have n0_ := Aside0.mk (Kd.R_mono (Kd.R_told (Kd.R_told (Kd.R_old (by (with_reducible repeat (first | apply Kd.R_alloc | apply Kd.R_drewN | apply Kd.R_drew)); exact HO_0.out) hb) (Kd.R_base ho0)) (Kd.R_base ho1)) (fun _ h_ => h_.1)); have n1_ := Aside0.mk (Kd.R_below (by (with_reducible repeat (first | apply Kd.R_alloc | apply Kd.R_drewN | apply Kd.R_drew)); exact HO_3.out) hb); have n2_ := Aside0.mk (Kd.R_mono (Kd.R_told (Kd.R_told (Kd.R_old (by (with_reducible repeat (first | apply Kd.R_alloc | apply Kd.R_drewN | apply Kd.R_drew)); exact HO195.out) hb) (Kd.R_base ho0)) (Kd.R_base ho1)) (fun _ h_ => h_.1)); have n3_ := Aside0.mk (Kd.R_lower (Kd.R_new' (Kd.R_new' ho0 (Kd.R_lt (by (with_reducible repeat (first | apply Kd.R_alloc | apply Kd.R_drewN | apply Kd.R_drew)); exact HO_0.out))) (Kd.R_lt (by (with_reducible repeat (first | apply Kd.R_alloc | apply Kd.R_drewN | apply Kd.R_drew)); exact HO195.out))) (z10q (by repeat (first | (with_reducible first | exact HB.out | apply z02q | apply z00q | apply z01q) | exact HB.out)))); have n4_ := Aside0.mk (Kd.R_lower (Kd.R_new' (Kd.R_new' ho1 (Kd.R_lt (by (with_reducible repeat (first | apply Kd.R_alloc | apply Kd.R_drewN | apply Kd.R_drew)); exact HO_0.out))) (Kd.R_lt (by (with_reducible repeat (first | apply Kd.R_alloc | apply Kd.R_drewN | apply Kd.R_drew)); exact HO195.out))) (z10q (by repeat (first | (with_reducible first | exact HB.out | apply z02q | apply z00q | apply z01q) | exact HB.out)))); have n5_ := Aside0.mk (z11q (by repeat (first | (with_reducible first | exact HB.out | apply z02q | apply z00q | apply z01q) | exact HB.out)) hb); clear HO_0; clear HO_3; clear HO195; clear HB; have HO_0 := n0_; have HO_3 := n1_; have HO195 := n2_; have HO200 := n3_; have HO202 := n4_; have HB := n5_; clear n0_ n1_ n2_ n3_ n4_ n5_; (try clear hb); (try clear hb2); (try clear hk); (try clear hi); (try clear ho0); (try clear ho1); obtain ⟨Ao12, co12, eo12⟩ := Kd.R_slice HO202.out; subst eo12) | ((with_reducible refine z16q (f := 51) rfl ?_); refine goesL_ (some 23) rfl rfl Try.func51 (by kernel_rfl) rfl #[.slice Ao12 t197.length co12] rfl (by (try simp only [List.map_toArray, List.map_cons, List.map_nil]); first | done | rfl | (simp only [List.length_drop, List.length_take]; rfl)) ?_; (with_reducible refine (nat_Small.calls k1 _ _ t197 t203 t204 _ ?side1 ?side2 A7.out).mono ?_); (case side1 => repeat (first | exact (Kd.R_reads' HO202.out).2.2 | (with_reducible refine Kd.C_alloc ?_ _) | (with_reducible refine Kd.C_drewN ?_ _) | (with_reducible refine Kd.C_drew ?_))); (case side2 => exact (Kd.R_reads' HO202.out).2.1); rintro e w13 ⟨rfl, hb⟩; refine ⟨_, rfl, ?_⟩; have n0_ := Aside0.mk (Kd.R_below (by (with_reducible repeat (first | apply Kd.R_alloc | apply Kd.R_drewN | apply Kd.R_drew)); exact HO_0.out) hb); have n1_ := Aside0.mk (Kd.R_below (by (with_reducible repeat (first | apply Kd.R_alloc | apply Kd.R_drewN | apply Kd.R_drew)); exact HO_3.out) hb); have n2_ := Aside0.mk (Kd.R_below (by (with_reducible repeat (first | apply Kd.R_alloc | apply Kd.R_drewN | apply Kd.R_drew)); exact HO195.out) hb); have n3_ := Aside0.mk (Kd.R_below (by (with_reducible repeat (first | apply Kd.R_alloc | apply Kd.R_drewN | apply Kd.R_drew)); exact HO200.out) hb); have n4_ := Aside0.mk (Kd.R_below (by (with_reducible repeat (first | apply Kd.R_alloc | apply Kd.R_drewN | apply Kd.R_drew)); exact HO202.out) hb); have n5_ := Aside0.mk (z11q (by repeat (first | (with_reducible first | exact HB.out | apply z02q | apply z00q | apply z01q) | exact HB.out)) hb); clear HO_0; clear HO_3; clear HO195; clear HO200; clear HO202; clear HB; have HO_0 := n0_; have HO_3 := n1_; have HO195 := n2_; have HO200 := n3_; have HO202 := n4_; have HB := n5_; clear n0_ n1_ n2_ n3_ n4_ n5_; (try clear hb); (try clear hb2); (try clear hk); (try clear hi)))
        go_loopg [3, 7, 26] k1 (fun kq v3 v7 v26 w' => ∃ (x3_2 : List Int) (x7_2 : Int) (x26_2 : Int), v7 = .int .u64 x7_2 ∧ v26 = .int .i64 x26_2 ∧ Aside0 (nat_Text.l1 kq x3_2 t196 x7_2 x26_2 = some r) ∧ Aside0 (kq ≤ k1) ∧ Aside0 (Kd.R (Kd.int .u8) 5 w' w.heap.size (fun _ => True) v3 x3_2) ∧ Aside0 (Kd.R (Kd.int .u32) 96 w' w.heap.size (fun _ => True) v199 t196) ∧ Aside0 (Below w.heap.size w w'))
        case atStart => exact ⟨(x3_1), (t203), (0), (by first | rfl | (simp; done) | (simp [*]; done)), (by first | rfl | (simp; done) | (simp [*]; done)), H', ⟨Nat.le_refl _⟩, ⟨by (with_reducible repeat (first | apply Kd.R_alloc | apply Kd.R_drewN | apply Kd.R_drew)); exact HO_3.out⟩, ⟨by (with_reducible repeat (first | apply Kd.R_alloc | apply Kd.R_drewN | apply Kd.R_drew)); exact Kd.R_mono HO200.out (fun _ hk => trivial)⟩, ⟨by repeat (first | (with_reducible first | exact HB.out | apply z02q | apply z00q | apply z01q) | exact HB.out)⟩⟩
        case round =>
          clear H'
          try clear p2
          try clear c3
          try clear c4
          try clear c4b0
          try clear c4b1
          try clear c5
          try clear p2
          obtain ⟨x3_2, x7_2, x26_2, rfl, rfl, HA, HK2, HO_3, HO_4, HB⟩ := hrel
          cases gk with
          | zero => exact absurd HA.out (by simp [nat_Text.l1])
          | succ k2 =>
            have H := HA.out
            clear HA
            simp only [nat_Text.l1] at H
            by_cases c14 : x26_2 < 9
            · rw [if_pos c14] at H
              have c14b0 : decide (x26_2 < 9) = true := decide_eq_true c14
              clear c14
              by_cases c15 : x3_2.length < 140737488355328
              · rw [if_pos c15] at H
                have LMc15 := Aside0.mk c15
                clear c15
                obtain ⟨y205, hy205⟩ : ∃ y_ : List Int, y_ = (x3_2 ++ [(IntKind.u64.wrap (48 + (Int.tmod x7_2 10))) % 256]) := ⟨_, rfl⟩
                replace H : (nat_Text.l1 k2 y205 t196 (IntKind.u64.wrap (Int.tdiv x7_2 10)) (wrap64 (x26_2 + 1))) = some r := by first | (rw [hy205]; with_reducible exact H) | (have H2_ := (Option.bind_some _ _).symm.trans H; rw [hy205]; with_reducible exact H2_) | (have H2_ := (Option.bind_some _ _).symm.trans H; with_reducible exact H2_) | with_reducible exact H | (rw [hy205]; exact H) | exact H
                have Ny205 := Aside0.mk hy205
                clear hy205
                have H' := Aside0.mk H
                clear H
                go_wp2_with (first | ((with_reducible refine gate_builtin (b := .append) (xs := #[.tmp 28, .tmp 33]) rfl ?_); (try (refine z25q (by rfl) ?_; dsimp only)); at_builtin; refine Kd.R_append (Kd.int .u8) (w0 := w) w.heap.size rfl (.tmp 28) (.tmp 33) 90 5 (.int .u8 0) 1 rfl Try.underlying90 info5 rfl (by decide) (by omega) u3 x3_2 ((IntKind.u64.wrap (48 + (Int.tmod x7_2 10))) % 256) [.int .u8 ((IntKind.u64.wrap (48 + (Int.tmod x7_2 10))) % 256)] (fun _ => True) (fun _ => False) rfl rfl ?aP (fun _ hk => hk.elim) ?aF ?aO ?aB ?aS ?aL ?_; (case aP => exact rfl); (case aB => exact (by repeat (first | (with_reducible first | exact HB.out | apply z02q | apply z00q | apply z01q) | exact HB.out))); (case aF => exact (fun _ _ => trivial)); (case aO => exact (by (with_reducible repeat (first | apply Kd.R_alloc | apply Kd.R_drewN | apply Kd.R_drew)); exact HO_3.out)); (case aS => exact (z10q (by repeat (first | (with_reducible first | exact HB.out | apply z02q | apply z00q | apply z01q) | exact HB.out)))); (case aL => have := LMc15.out; omega); intro v206 w16 ho hb hg hat; rw [← Ny205.out] at ho; have n0_ := Aside0.mk (Kd.R_over' (by (with_reducible repeat (first | apply Kd.R_alloc | apply Kd.R_drewN | apply Kd.R_drew)); exact HO_4.out) (Kd.R_typed (by (with_reducible repeat (first | apply Kd.R_alloc | apply Kd.R_drewN | apply Kd.R_drew)); exact HO_3.out)) (by decide) hg); have n1_ := Aside0.mk (hb); have n2_ := Aside0.mk (ho); clear HO_4; clear HB; clear HO_3; have HO_4 := n0_; have HB := n1_; have HO207 := n2_; clear n0_ n1_ n2_; clear ho hb hg hat))
                go_roundg k2
                case measure => have := HK1.out; have := HK2.out; omega
                case rel => exact ⟨(y205), (IntKind.u64.wrap (Int.tdiv x7_2 10)), (wrap64 (x26_2 + 1)), (by first | rfl | (simp; done) | (simp [*]; done)), (by first | rfl | (simp; done) | (simp [*]; done)), H', ⟨by have := HK1.out; have := HK2.out; omega⟩, ⟨by (with_reducible repeat (first | apply Kd.R_alloc | apply Kd.R_drewN | apply Kd.R_drew)); exact HO207.out⟩, ⟨by (with_reducible repeat (first | apply Kd.R_alloc | apply Kd.R_drewN | apply Kd.R_drew)); exact HO_4.out⟩, ⟨by repeat (first | (with_reducible first | exact HB.out | apply z02q | apply z00q | apply z01q) | exact HB.out)⟩⟩
              · rw [if_neg c15] at H
                exact absurd H (by simp)
            · rw [if_neg c14] at H
              have c14b0 : decide (x26_2 < 9) = false := decide_eq_false c14
              clear c14
              have H' := Aside0.mk H
              clear H
              go_wp2
              go_roundg k2
              case measure => have := HK1.out; have := HK2.out; omega
              case rel => exact ⟨(t196), (x3_2), H', ⟨by have := HK1.out; have := HK2.out; omega⟩, ⟨by (with_reducible repeat (first | apply Kd.R_alloc | apply Kd.R_drewN | apply Kd.R_drew)); exact HO_4.out⟩, ⟨by (with_reducible repeat (first | apply Kd.R_alloc | apply Kd.R_drewN | apply Kd.R_drew)); exact HO_3.out⟩, ⟨by repeat (first | (with_reducible first | exact HB.out | apply z02q | apply z00q | apply z01q) | exact HB.out)⟩⟩
      · rw [if_neg c4] at H
        have c4b0 : decide (0 < (x0_1.length : Int)) = false := decide_eq_false c4
        have c4b1 : decide (0 < x0_1.length) = false := decide_eq_false (by omega)
        clear c4
        have H' := Aside0.mk H
        clear H
        obtain ⟨Ao17, co17, eo17⟩ := Kd.R_slice HO_0.out
        subst eo17
        go_wp2
        go_loopg [3] k1 (fun kq v3 w' => ∃ (x3_2 : List Int), Aside0 (nat_Text.l2 kq x3_2 = some r) ∧ Aside0 (kq ≤ k1) ∧ Aside0 (Kd.R (Kd.int .u8) 5 w' w.heap.size (fun _ => True) v3 x3_2) ∧ Aside0 (Below w.heap.size w w'))
        case atStart => exact ⟨(x3_1), H', ⟨Nat.le_refl _⟩, ⟨by (with_reducible repeat (first | apply Kd.R_alloc | apply Kd.R_drewN | apply Kd.R_drew)); exact HO_3.out⟩, ⟨by repeat (first | (with_reducible first | exact HB.out | apply z02q | apply z00q | apply z01q) | exact HB.out)⟩⟩
        case round =>
          clear H'
          try clear c1
          try clear p2
          try clear c3
          try clear c4
          try clear c4b0
          try clear c4b1
          try clear c5
          try clear p6
          try clear c14
          try clear c14b0
          try clear c15
          try clear p2
          obtain ⟨x3_2, HA, HK2, HO_3, HB⟩ := hrel
          cases gk with
          | zero => exact absurd HA.out (by simp [nat_Text.l2])
          | succ k2 =>
            have H := HA.out
            clear HA
            simp only [nat_Text.l2] at H
            by_cases c18 : (x3_2.length : Int) > 1
            · rw [if_pos c18] at H
              have c18b0 : decide (1 < (x3_2.length : Int)) = true := decide_eq_true c18
              have c18b1 : decide (1 < x3_2.length) = true := decide_eq_true (by omega)
              clear c18
              obtain ⟨ji19, hji19⟩ : ∃ j_ : Int, (wrap64 ((x3_2.length : Int) - 1)) = j_ := ⟨_, rfl⟩
              replace H : (if 0 ≤ (ji19) then (if (ji19) < (x3_2.length : Int) then (if (rd x3_2 (ji19)) = 48 then (if (ji19) ≤ (x3_2.length : Int) then (nat_Text.l2 k2 (x3_2.take ((ji19) : Int).toNat)) else (none)) else (if (x3_2.length : Int) = 0 then (some (⟨#[48]⟩ : ByteArray)) else ((slices_Reverse_byte_byte.f k2 x3_2).bind fun t212 => (some (strOfNums t212))))) else (none)) else (none)) = some r := by first | (rw [hji19] at H; exact H) | (simp only [hji19] at H ⊢; exact H)
              have hji19w : (IntKind.i64.wrap ((x3_2.length : Int) - 1)) = ji19 := (i64_w _).trans hji19
              by_cases c20 : 0 ≤ (ji19)
              · rw [if_pos c20] at H
                have c20b0 : decide (0 ≤ (ji19)) = true := decide_eq_true c20
                clear c20
                by_cases c21 : (ji19) < (x3_2.length : Int)
                · rw [if_pos c21] at H
                  have c21b0 : decide ((ji19) < (x3_2.length : Int)) = true := decide_eq_true c21
                  clear c21
                  by_cases c22 : (rd x3_2 (ji19)) = 48
                  · rw [if_pos c22] at H
                    have c22b0 : ((rd x3_2 (ji19)) == 48) = true := beq_iff_eq.mpr c22
                    have c22b1 : ((rd x3_2 (ji19)) != 48) = false := bne_eq_false_iff_eq.mpr c22
                    clear c22
                    by_cases c23 : (ji19) ≤ (x3_2.length : Int)
                    · rw [if_pos c23] at H
                      have c23b0 := eq_true c23
                      have c23b1 : decide ((ji19) ≤ (x3_2.length : Int)) = true := decide_eq_true c23
                      clear c23
                      obtain ⟨y209, hy209⟩ : ∃ y_ : List Int, y_ = (x3_2.take ((ji19) : Int).toNat) := ⟨_, rfl⟩
                      replace H : (nat_Text.l2 k2 y209) = some r := by first | (rw [hy209]; with_reducible exact H) | (have H2_ := (Option.bind_some _ _).symm.trans H; rw [hy209]; with_reducible exact H2_) | (have H2_ := (Option.bind_some _ _).symm.trans H; with_reducible exact H2_) | with_reducible exact H | (rw [hy209]; exact H) | exact H
                      have Ny209 := Aside0.mk hy209
                      clear hy209
                      have H' := Aside0.mk H
                      clear H
                      obtain ⟨Ao24, co24, eo24⟩ := Kd.R_slice HO_3.out
                      subst eo24
                      have p208 : 0 ≤ ((ji19) : Int) := of_decide_eq_true (by first | (with_reducible assumption) | assumption)
                      have q208 : (ji19) < (x3_2.length : Int) := of_decide_eq_true (by first | (with_reducible assumption) | assumption)
                      obtain ⟨ad208, e208, hx208_0⟩ := Kd.at_int (Kd.R_reads' HO_3.out).2.2 (ji19) p208 q208
                      cases e208
                      replace p208 := eq_true p208
                      replace q208 := eq_true q208
                      have q25 : ((ji19) : Int) ≤ ((x3_2.length : Int) : Int) := of_decide_eq_true (by first | (with_reducible assumption) | assumption)
                      obtain ⟨i025, hi025, _, hsz25, _⟩ := info_parts info5
                      have hcut25 := cut_to (P := Try.prog) 90 5 .i64 Try.underlying90 hi025 (some ad208) x3_2.length co24 (ji19) (of_decide_eq_true (by first | (with_reducible assumption) | assumption)) q25 (Kd.R_reads' HO_3.out).2.1
                      have hr25 := Kd.R_take (m := ((ji19) : Int).toNat) HO_3.out (by omega)
                      have hy25 : y209.length = ((ji19) : Int).toNat := (by rw [Ny209.out, List.length_take]; omega)
                      rw [← Ny209.out] at hr25
                      rw [← hy25] at hr25 hcut25
                      clear hy25 hi025 hsz25 HO_3
                      have HO211 := Aside0.mk hr25
                      clear hr25
                      replace q25 := eq_true q25
                      go_wp2
                      go_roundg k2
                      case measure => have := HK1.out; have := HK2.out; omega
                      case rel => exact ⟨(y209), H', ⟨by have := HK1.out; have := HK2.out; omega⟩, ⟨by (with_reducible repeat (first | apply Kd.R_alloc | apply Kd.R_drewN | apply Kd.R_drew)); exact HO211.out⟩, ⟨by repeat (first | (with_reducible first | exact HB.out | apply z02q | apply z00q | apply z01q) | exact HB.out)⟩⟩
                    · rw [if_neg c23] at H
                      exact absurd H (by simp)
                  · rw [if_neg c22] at H
                    have c22b0 : ((rd x3_2 (ji19)) == 48) = false := beq_eq_false_iff_ne.mpr c22
                    have c22b1 : ((rd x3_2 (ji19)) != 48) = true := bne_iff_ne.mpr c22
                    by_cases c26 : (x3_2.length : Int) = 0
                    · rw [if_pos c26] at H
                      have c26b0 : ((x3_2.length : Int) == 0) = true := beq_iff_eq.mpr c26
                      have c26b1 : ((x3_2.length : Int) != 0) = false := bne_eq_false_iff_eq.mpr c26
                      clear c26
                      obtain rfl := Option.some.inj H
                      obtain ⟨Ao27, co27, eo27⟩ := Kd.R_slice HO_3.out
                      subst eo27
                      have p208 : 0 ≤ ((ji19) : Int) := of_decide_eq_true (by first | (with_reducible assumption) | assumption)
                      have q208 : (ji19) < (x3_2.length : Int) := of_decide_eq_true (by first | (with_reducible assumption) | assumption)
                      obtain ⟨ad208, e208, hx208_0⟩ := Kd.at_int (Kd.R_reads' HO_3.out).2.2 (ji19) p208 q208
                      cases e208
                      replace p208 := eq_true p208
                      replace q208 := eq_true q208
                      go_wp2
                      go_ret
                      exact ⟨by first | rfl | (simp [z14q, z13q] <;> rfl) | (simp only [← hji19]; first | rfl | (simp [z14q, z13q] <;> rfl)) | (simp [*, z14q, z13q] <;> rfl), by repeat (first | (with_reducible first | exact HB.out | apply z02q | apply z00q | apply z01q) | exact HB.out)⟩
                    · rw [if_neg c26] at H
                      have c26b0 : ((x3_2.length : Int) == 0) = false := beq_eq_false_iff_ne.mpr c26
                      have c26b1 : ((x3_2.length : Int) != 0) = true := bne_iff_ne.mpr c26
                      have c26b2 : ¬ (x3_2 = []) := fun h_ => c26 (by rw [h_]; rfl)
                      replace H := Option.bind_eq_some_iff.mp H
                      obtain ⟨t212, A280, H⟩ := H
                      replace H : (some (strOfNums t212)) = some r := H
                      have A28 := Aside0.mk A280
                      clear A280
                      obtain rfl := Option.some.inj H
                      obtain ⟨Ao29, co29, eo29⟩ := Kd.R_slice HO_3.out
                      subst eo29
                      have p208 : 0 ≤ ((ji19) : Int) := of_decide_eq_true (by first | (with_reducible assumption) | assumption)
                      have q208 : (ji19) < (x3_2.length : Int) := of_decide_eq_true (by first | (with_reducible assumption) | assumption)
                      obtain ⟨ad208, e208, hx208_0⟩ := Kd.at_int (Kd.R_reads' HO_3.out).2.2 (ji19) p208 q208
                      cases e208
                      replace p208 := eq_true p208
                      replace q208 := eq_true q208
                      go_wp2_with (first | ((with_reducible refine z16q (f := 52) rfl ?_); refine goesL_ (some 60) rfl rfl Try.func52 (by kernel_rfl) rfl #[.slice (some ad208) x3_2.length co29] rfl (by (try simp only [List.map_toArray, List.map_cons, List.map_nil]); first | done | rfl | (simp only [List.length_drop, List.length_take]; rfl)) ?_; (with_reducible refine (slices_Reverse_byte_byte.calls k2 (fun k_ => some k_ = (.slice (some ad208) x3_2.length co29 : Value).ownBlock) (.slice (some ad208) x3_2.length co29) x3_2 t212 w _ ?side1 ?side2 A28.out).mono ?_); (case side1 => repeat (first | (with_reducible first | exact HB.out | apply z02q | apply z00q | apply z01q) | exact HB.out)); (case side2 => exact Kd.R_tight rfl HO_3.out); rintro e w30 ⟨rfl, hy0, hb, hkp⟩; refine ⟨_, rfl, ?_⟩; have n0_ := Aside0.mk (Kd.R_reok rfl hy0 (fun k_ e_ => HO_3.out.1 k_ e_)); have n1_ := Aside0.mk (hb); clear HO_3; clear HB; have HO_3 := n0_; have HB := n1_; clear n0_ n1_; (try clear hb); (try clear hkp); (try clear hy0); have hcv31 := own_string (P := Try.prog) Try.underlying90 Try.underlying5 Try.underlying9 (Kd.own_of_R HO_3.out)))
                      go_ret
                      exact ⟨by first | rfl | (simp [z14q, z13q] <;> rfl) | (simp only [← hji19]; first | rfl | (simp [z14q, z13q] <;> rfl)) | (simp [*, z14q, z13q] <;> rfl), by repeat (first | (with_reducible first | exact HB.out | apply z02q | apply z00q | apply z01q) | exact HB.out)⟩
                · rw [if_neg c21] at H
                  exact absurd H (by simp)
              · rw [if_neg c20] at H
                exact absurd H (by simp)
            · rw [if_neg c18] at H
              have c18b0 : decide (1 < (x3_2.length : Int)) = false := decide_eq_false c18
              have c18b1 : decide (1 < x3_2.length) = false := decide_eq_false (by omega)
              clear c18
              by_cases c32 : (x3_2.length : Int) = 0
              · rw [if_pos c32] at H
                have c32b0 : ((x3_2.length : Int) == 0) = true := beq_iff_eq.mpr c32
                have c32b1 : ((x3_2.length : Int) != 0) = false := bne_eq_false_iff_eq.mpr c32
                clear c32
                obtain rfl := Option.some.inj H
                obtain ⟨Ao33, co33, eo33⟩ := Kd.R_slice HO_3.out
                subst eo33
                go_wp2
                go_ret
                exact ⟨by first | rfl | (simp [z14q, z13q] <;> rfl) | (simp [*, z14q, z13q] <;> rfl), by repeat (first | (with_reducible first | exact HB.out | apply z02q | apply z00q | apply z01q) | exact HB.out)⟩
              · rw [if_neg c32] at H
                have c32b0 : ((x3_2.length : Int) == 0) = false := beq_eq_false_iff_ne.mpr c32
                have c32b1 : ((x3_2.length : Int) != 0) = true := bne_iff_ne.mpr c32
                have c32b2 : ¬ (x3_2 = []) := fun h_ => c32 (by rw [h_]; rfl)
                replace H := Option.bind_eq_some_iff.mp H
                obtain ⟨t213, A340, H⟩ := H
                replace H : (some (strOfNums t213)) = some r := H
                have A34 := Aside0.mk A340
                clear A340
                obtain rfl := Option.some.inj H
                obtain ⟨Ao35, co35, eo35⟩ := Kd.R_slice HO_3.out
                subst eo35
                go_wp2_with (first | ((with_reducible refine z16q (f := 52) rfl ?_); refine goesL_ (some 60) rfl rfl Try.func52 (by kernel_rfl) rfl #[.slice Ao35 x3_2.length co35] rfl (by (try simp only [List.map_toArray, List.map_cons, List.map_nil]); first | done | rfl | (simp only [List.length_drop, List.length_take]; rfl)) ?_; (with_reducible refine (slices_Reverse_byte_byte.calls k2 (fun k_ => some k_ = (.slice Ao35 x3_2.length co35 : Value).ownBlock) (.slice Ao35 x3_2.length co35) x3_2 t213 w _ ?side1 ?side2 A34.out).mono ?_); (case side1 => repeat (first | (with_reducible first | exact HB.out | apply z02q | apply z00q | apply z01q) | exact HB.out)); (case side2 => exact Kd.R_tight rfl HO_3.out); rintro e w36 ⟨rfl, hy0, hb, hkp⟩; refine ⟨_, rfl, ?_⟩; have n0_ := Aside0.mk (Kd.R_reok rfl hy0 (fun k_ e_ => HO_3.out.1 k_ e_)); have n1_ := Aside0.mk (hb); clear HO_3; clear HB; have HO_3 := n0_; have HB := n1_; clear n0_ n1_; (try clear hb); (try clear hkp); (try clear hy0); have hcv37 := own_string (P := Try.prog) Try.underlying90 Try.underlying5 Try.underlying9 (Kd.own_of_R HO_3.out)))
                go_ret
                exact ⟨by first | rfl | (simp [z14q, z13q] <;> rfl) | (simp [*, z14q, z13q] <;> rfl), by repeat (first | (with_reducible first | exact HB.out | apply z02q | apply z00q | apply z01q) | exact HB.out)⟩
def whole_Make.f (k : Nat) (a0 : Bool) (l1 : List Int) : Option (Bool × List Int) := (nat_Shift.f k l1 0).bind fun t215 => (if a0 = true then (some (decide (0 < t215.length), t215)) else (some (false, t215)))
theorem whole_Make.mono : ∀ a0 a1 k, LeO (whole_Make.f k a0 a1) (whole_Make.f (k + 1) a0 a1) := by
  intro a0 a1 k
  unfold whole_Make.f
  repeat' first
      | (with_reducible exact nat_Shift.mono _ _ _)
      | (with_reducible exact LeO.refl _)
      | (with_reducible exact LeO.none _)
      | (with_reducible refine LeO.ite ?_ ?_)
      | (with_reducible refine LeO.bind ?_ (fun _ => ?_))
      | exact nat_Shift.mono _ _ _
      | exact LeO.none _
      | refine LeO.ite ?_ ?_
      | refine LeO.bind ?_ (fun _ => ?_)
set_option maxHeartbeats 8000000 in
set_option maxRecDepth 100000 in
theorem whole_Make.calls (k : Nat) (a0 : Bool) (A1 : Option Addr) (c1 : Nat) (l1 : List Int) (r1 : Bool) (r2 : List Int) (w : World) (hr1 : Kd.C (Kd.int .u32) w A1 l1.length l1) (hc1 : l1.length ≤ c1) (h : whole_Make.f k a0 l1 = some (r1, r2)) :
    Calls Try.prog 47 #[.bool a0, .slice A1 l1.length c1] w fun e w' => ∃ v1_ : Value, e = .returned (.agg #[.bool r1, v1_]) ∧ Kd.R (Kd.int .u32) 96 w' w.heap.size (fun _ => True) v1_ r2 ∧ Below w.heap.size w w' := by
  have hu37 := Try.underlying37
  have HR1 := Aside0.mk hr1
  have HC1 := Aside0.mk hc1
  clear hr1 hc1
  have HB := Aside0.mk (Below.refl w.heap.size w)
  have H : ((nat_Shift.f k l1 0).bind fun t215 => (if a0 = true then (some (decide (0 < t215.length), t215)) else (some (false, t215)))) = some (r1, r2) := h
  clear h
  replace H := Option.bind_eq_some_iff.mp H
  obtain ⟨t215, A30, H⟩ := H
  replace H : (if a0 = true then (some (decide (0 < t215.length), t215)) else (some (false, t215))) = some (r1, r2) := H
  have A3 := Aside0.mk A30
  clear A30
  by_cases c4 : a0 = true
  · subst c4
    have H1 : (some (decide (0 < t215.length), t215)) = some (r1, r2) := by rw [if_pos rfl] at H; exact H
    clear H
    have H := H1
    clear H1
    simp only [Option.some.injEq, Prod.mk.injEq] at H
    obtain ⟨rfl, rfl⟩ := H
    go_enter Try.func47, Try.ntmps47
    go_wp2_with (first | ((with_reducible refine z18q (N := 4) rfl ?_); (try (refine z25q (by rfl) ?_; dsimp only)); refine z17q ?hg (N := 4) ?hd (cs := #[.bool false, .slice none 0 0]) (t := 37) ?hr ?_; (case hd => rfl); (case hg => rfl); (case hr => first | (go_simp; done) | (go_simp; rfl)); intro gb214 hg w5 hbox hb; have n0_ := Aside0.mk (z11q (by repeat (first | (with_reducible first | exact HB.out | apply z02q | apply z00q | apply z01q) | exact HB.out)) hb); have n1_ := Aside0.mk (hbox); have n2_ := Aside0.mk ((by rw [hg]; exact (z10q (by repeat (first | (with_reducible first | exact HB.out | apply z02q | apply z00q | apply z01q) | exact HB.out))) : w.heap.size ≤ gb214)); have n3_ := Aside0.mk ((by rw [hg]; exact (z10q (by repeat (first | (with_reducible first | exact HB.out | apply z02q | apply z00q | apply z01q) | exact HB.out))) : w.heap.size ≤ gb214)); clear HB; have HB := n0_; have BK214 := n1_; have GW214 := n2_; have GE214 := n3_; clear n0_ n1_ n2_ n3_; clear hb hbox hg) | ((with_reducible refine z16q (f := 59) rfl ?_); refine goesL_ (some 6) rfl rfl Try.func59 (by kernel_rfl) rfl #[.slice A1 l1.length c1, .int .i64 0] rfl (by (try simp only [List.map_toArray, List.map_cons, List.map_nil]); first | done | rfl | (simp only [List.length_drop, List.length_take]; rfl)) ?_; (with_reducible refine (nat_Shift.calls k _ _ l1 0 t215 _ ?side1 ?side2 A3.out).mono ?_); (case side1 => repeat (first | exact (Kd.C_below HR1.out HB.out) | (with_reducible refine Kd.C_alloc ?_ _) | (with_reducible refine Kd.C_drewN ?_ _) | (with_reducible refine Kd.C_drew ?_))); (case side2 => exact HC1.out); rintro e w6 ⟨v216, rfl, ho0, hb⟩; refine ⟨_, rfl, ?_⟩; have n0_ := Aside0.mk (Kd.R_lower ho0 (z10q (by repeat (first | (with_reducible first | exact HB.out | apply z02q | apply z00q | apply z01q | refine z03q ?_ GE214.out) | exact HB.out)))); have n1_ := Aside0.mk (z09q (g := gb214) (o := .cells #[.bool false, .slice none 0 0] 37 (0, 0)) (by (with_reducible repeat (first | refine z06q ?_ _ | refine z07q ?_ | refine z05q ?_ _)); exact BK214.out) hb); have n2_ := Aside0.mk (z11q (by repeat (first | (with_reducible first | exact HB.out | apply z02q | apply z00q | apply z01q | refine z03q ?_ GE214.out) | exact HB.out)) hb); clear BK214; clear HB; have HO217 := n0_; have BK214 := n1_; have HB := n2_; clear n0_ n1_ n2_; (try clear hb); (try clear hb2); (try clear hk); (try clear hi); (try clear ho0); obtain ⟨Ao7, co7, eo7⟩ := Kd.R_slice HO217.out; subst eo7; have hcz8_0 : w6.cell? ⟨gb214, 0, none⟩ = some (.bool false) := (z04q BK214.out 0).trans rfl; have hcz8_1 : w6.cell? ⟨gb214, 1, none⟩ = some (.slice none 0 0) := (z04q BK214.out 1).trans rfl; have hfz8_0 := z08q BK214.out 0; have hfz8_1 := z08q BK214.out 1))
    refine bodyPost_ret (results_cell_row rfl _ _ gb214 37 #[.bool (decide (0 < t215.length)), .slice Ao7 t215.length co7] (0, 0) _ rfl (by (with_reducible repeat (first | refine z06q ?_ _ | refine z07q ?_ | refine z05q ?_ _)); refine blk_put (cs := #[.bool (decide (0 < t215.length)), .slice none 0 0]) ?_ 1 _ rfl; (with_reducible repeat (first | refine z06q ?_ _ | refine z07q ?_ | refine z05q ?_ _)); refine blk_put (cs := #[.bool false, .slice none 0 0]) ?_ 0 _ rfl; (with_reducible repeat (first | refine z06q ?_ _ | refine z07q ?_ | refine z05q ?_ _)); exact BK214.out) Try.underlying37 rfl (by kernel_rfl)) rfl ?_
    exact ⟨_, by first | rfl | (simp [z14q, z13q] <;> rfl) | (simp [*, z14q, z13q] <;> rfl), by (with_reducible repeat (first | apply Kd.R_alloc | apply Kd.R_drewN | apply Kd.R_drew)); exact Kd.R_mono (Kd.R_far (p := ⟨gb214, 1, none⟩) (Kd.R_far (p := ⟨gb214, 0, none⟩) (Kd.R_types HO217.out BK214.out (by decide)) (fun _ hk => hk.2) (.bool (decide (0 < t215.length)))) (fun _ hk => hk.2) (.slice Ao7 t215.length co7)) (fun _ hk => trivial), by repeat (first | (with_reducible first | exact HB.out | apply z02q | apply z00q | apply z01q | refine z03q ?_ GE214.out) | exact HB.out)⟩
  · replace c4 := Bool.eq_false_iff.mpr c4
    subst c4
    have H1 : (some (false, t215)) = some (r1, r2) := by rw [if_neg (show ¬ (false = true) by decide)] at H; exact H
    clear H
    have H := H1
    clear H1
    simp only [Option.some.injEq, Prod.mk.injEq] at H
    obtain ⟨rfl, rfl⟩ := H
    go_enter Try.func47, Try.ntmps47
    go_wp2_with (first | ((with_reducible refine z18q (N := 4) rfl ?_); (try (refine z25q (by rfl) ?_; dsimp only)); refine z17q ?hg (N := 4) ?hd (cs := #[.bool false, .slice none 0 0]) (t := 37) ?hr ?_; (case hd => rfl); (case hg => rfl); (case hr => first | (go_simp; done) | (go_simp; rfl)); intro gb214 hg w9 hbox hb; have n0_ := Aside0.mk (z11q (by repeat (first | (with_reducible first | exact HB.out | apply z02q | apply z00q | apply z01q) | exact HB.out)) hb); have n1_ := Aside0.mk (hbox); have n2_ := Aside0.mk ((by rw [hg]; exact (z10q (by repeat (first | (with_reducible first | exact HB.out | apply z02q | apply z00q | apply z01q) | exact HB.out))) : w.heap.size ≤ gb214)); have n3_ := Aside0.mk ((by rw [hg]; exact (z10q (by repeat (first | (with_reducible first | exact HB.out | apply z02q | apply z00q | apply z01q) | exact HB.out))) : w.heap.size ≤ gb214)); clear HB; have HB := n0_; have BK214 := n1_; have GW214 := n2_; have GE214 := n3_; clear n0_ n1_ n2_ n3_; clear hb hbox hg) | ((with_reducible refine z16q (f := 59) rfl ?_); refine goesL_ (some 6) rfl rfl Try.func59 (by kernel_rfl) rfl #[.slice A1 l1.length c1, .int .i64 0] rfl (by (try simp only [List.map_toArray, List.map_cons, List.map_nil]); first | done | rfl | (simp only [List.length_drop, List.length_take]; rfl)) ?_; (with_reducible refine (nat_Shift.calls k _ _ l1 0 t215 _ ?side1 ?side2 A3.out).mono ?_); (case side1 => repeat (first | exact (Kd.C_below HR1.out HB.out) | (with_reducible refine Kd.C_alloc ?_ _) | (with_reducible refine Kd.C_drewN ?_ _) | (with_reducible refine Kd.C_drew ?_))); (case side2 => exact HC1.out); rintro e w10 ⟨v216, rfl, ho0, hb⟩; refine ⟨_, rfl, ?_⟩; have n0_ := Aside0.mk (Kd.R_lower ho0 (z10q (by repeat (first | (with_reducible first | exact HB.out | apply z02q | apply z00q | apply z01q | refine z03q ?_ GE214.out) | exact HB.out)))); have n1_ := Aside0.mk (z09q (g := gb214) (o := .cells #[.bool false, .slice none 0 0] 37 (0, 0)) (by (with_reducible repeat (first | refine z06q ?_ _ | refine z07q ?_ | refine z05q ?_ _)); exact BK214.out) hb); have n2_ := Aside0.mk (z11q (by repeat (first | (with_reducible first | exact HB.out | apply z02q | apply z00q | apply z01q | refine z03q ?_ GE214.out) | exact HB.out)) hb); clear BK214; clear HB; have HO217 := n0_; have BK214 := n1_; have HB := n2_; clear n0_ n1_ n2_; (try clear hb); (try clear hb2); (try clear hk); (try clear hi); (try clear ho0); obtain ⟨Ao11, co11, eo11⟩ := Kd.R_slice HO217.out; subst eo11; have hcz12_0 : w10.cell? ⟨gb214, 0, none⟩ = some (.bool false) := (z04q BK214.out 0).trans rfl; have hcz12_1 : w10.cell? ⟨gb214, 1, none⟩ = some (.slice none 0 0) := (z04q BK214.out 1).trans rfl; have hfz12_0 := z08q BK214.out 0; have hfz12_1 := z08q BK214.out 1))
    refine bodyPost_ret (results_cell_row rfl _ _ gb214 37 #[.bool false, .slice Ao11 t215.length co11] (0, 0) _ rfl (by (with_reducible repeat (first | refine z06q ?_ _ | refine z07q ?_ | refine z05q ?_ _)); refine blk_put (cs := #[.bool false, .slice none 0 0]) ?_ 1 _ rfl; (with_reducible repeat (first | refine z06q ?_ _ | refine z07q ?_ | refine z05q ?_ _)); refine blk_put (cs := #[.bool false, .slice none 0 0]) ?_ 0 _ rfl; (with_reducible repeat (first | refine z06q ?_ _ | refine z07q ?_ | refine z05q ?_ _)); exact BK214.out) Try.underlying37 rfl (by kernel_rfl)) rfl ?_
    exact ⟨_, by first | rfl | (simp [z14q, z13q] <;> rfl) | (simp [*, z14q, z13q] <;> rfl), by (with_reducible repeat (first | apply Kd.R_alloc | apply Kd.R_drewN | apply Kd.R_drew)); exact Kd.R_mono (Kd.R_far (p := ⟨gb214, 1, none⟩) (Kd.R_far (p := ⟨gb214, 0, none⟩) (Kd.R_types HO217.out BK214.out (by decide)) (fun _ hk => hk.2) (.bool false)) (fun _ hk => hk.2) (.slice Ao11 t215.length co11)) (fun _ hk => trivial), by repeat (first | (with_reducible first | exact HB.out | apply z02q | apply z00q | apply z01q | refine z03q ?_ GE214.out) | exact HB.out)⟩
def whole_Of.f (k : Nat) (a0 : Int) : Option (Bool × List Int) := (nat_Of.f k (IntKind.u64.wrap (mx a0 (wrap64 (-a0))))).bind fun t219 => ((whole_Make.f k (decide (a0 < 0)) t219).bind fun bt222 => (some (bt222.1, bt222.2)))
theorem whole_Of.mono : ∀ a0 k, LeO (whole_Of.f k a0) (whole_Of.f (k + 1) a0) := by
  intro a0 k
  unfold whole_Of.f
  repeat' first
      | (with_reducible exact nat_Of.mono _ _)
      | (with_reducible exact whole_Make.mono _ _ _)
      | (with_reducible exact LeO.refl _)
      | (with_reducible exact LeO.none _)
      | (with_reducible refine LeO.ite ?_ ?_)
      | (with_reducible refine LeO.bind ?_ (fun _ => ?_))
      | exact nat_Of.mono _ _
      | exact whole_Make.mono _ _ _
      | exact LeO.none _
      | refine LeO.ite ?_ ?_
      | refine LeO.bind ?_ (fun _ => ?_)
set_option maxHeartbeats 8000000 in
set_option maxRecDepth 100000 in
theorem whole_Of.calls (k : Nat) (a0 : Int) (r1 : Bool) (r2 : List Int) (w : World) (h : whole_Of.f k a0 = some (r1, r2)) :
    Calls Try.prog 37 #[.int .i64 a0] w fun e w' => ∃ v1_ : Value, e = .returned (.agg #[.bool r1, v1_]) ∧ Kd.R (Kd.int .u32) 96 w' w.heap.size (fun _ => True) v1_ r2 ∧ Below w.heap.size w w' := by
  have hu37 := Try.underlying37
  have HB := Aside0.mk (Below.refl w.heap.size w)
  have H : ((nat_Of.f k (IntKind.u64.wrap (mx a0 (wrap64 (-a0))))).bind fun t219 => ((whole_Make.f k (decide (a0 < 0)) t219).bind fun bt222 => (some (bt222.1, bt222.2)))) = some (r1, r2) := h
  clear h
  obtain ⟨ji2, hji2⟩ : ∃ j_ : Int, (mx a0 (wrap64 (-a0))) = j_ := ⟨_, rfl⟩
  replace H : ((nat_Of.f k (IntKind.u64.wrap (ji2))).bind fun t219 => ((whole_Make.f k (decide (a0 < 0)) t219).bind fun bt222 => (some (bt222.1, bt222.2)))) = some (r1, r2) := by first | (rw [hji2] at H; exact H) | (simp only [hji2] at H ⊢; exact H)
  have hji2_ : (if a0 < (wrap64 (-a0)) then (wrap64 (-a0)) else a0) = ji2 := hji2
  replace H := Option.bind_eq_some_iff.mp H
  obtain ⟨t219, A30, H⟩ := H
  replace H : ((whole_Make.f k (decide (a0 < 0)) t219).bind fun bt222 => (some (bt222.1, bt222.2))) = some (r1, r2) := H
  have A3 := Aside0.mk A30
  clear A30
  replace H := Option.bind_eq_some_iff.mp H
  obtain ⟨⟨t222, t223⟩, A40, H⟩ := H
  replace H : (some (t222, t223)) = some (r1, r2) := H
  have A4 := Aside0.mk A40
  clear A40
  simp only [Option.some.injEq, Prod.mk.injEq] at H
  obtain ⟨rfl, rfl⟩ := H
  go_enter Try.func37, Try.ntmps37
  go_wp2_with (first | ((with_reducible refine z18q (N := 2) rfl ?_); refine z17q ?hg (N := 2) ?hd (cs := #[.bool false, .slice none 0 0]) (t := 37) ?hr ?_; (case hd => rfl); (case hg => rfl); (case hr => first | (go_simp; done) | (go_simp; rfl)); intro gb218 hg w5 hbox hb; have n0_ := Aside0.mk (z11q (by repeat (first | (with_reducible first | exact HB.out | apply z02q | apply z00q | apply z01q) | exact HB.out)) hb); have n1_ := Aside0.mk (hbox); have n2_ := Aside0.mk ((by rw [hg]; exact (z10q (by repeat (first | (with_reducible first | exact HB.out | apply z02q | apply z00q | apply z01q) | exact HB.out))) : w.heap.size ≤ gb218)); have n3_ := Aside0.mk ((by rw [hg]; exact (z10q (by repeat (first | (with_reducible first | exact HB.out | apply z02q | apply z00q | apply z01q) | exact HB.out))) : w.heap.size ≤ gb218)); clear HB; have HB := n0_; have BK218 := n1_; have GW218 := n2_; have GE218 := n3_; clear n0_ n1_ n2_ n3_; clear hb hbox hg) | ((with_reducible refine z16q (f := 38) rfl ?_); refine goesL_ (some 10) rfl rfl Try.func38 (by kernel_rfl) rfl #[.int .u64 (IntKind.u64.wrap (ji2))] rfl (by (try simp only [List.map_toArray, List.map_cons, List.map_nil]); first | done | (simp only [hji2]; rfl) | rfl | (simp only [List.length_drop, List.length_take]; rfl)) ?_; (with_reducible refine (nat_Of.calls k (IntKind.u64.wrap (ji2)) t219 _ A3.out).mono ?_); rintro e w6 ⟨v220, rfl, ho0, hb⟩; refine ⟨_, rfl, ?_⟩; have n0_ := Aside0.mk (Kd.R_lower ho0 (z10q (by repeat (first | (with_reducible first | exact HB.out | apply z02q | apply z00q | apply z01q | refine z03q ?_ GE218.out) | exact HB.out)))); have n1_ := Aside0.mk (z09q (g := gb218) (o := .cells #[.bool false, .slice none 0 0] 37 (0, 0)) (by (with_reducible repeat (first | refine z06q ?_ _ | refine z07q ?_ | refine z05q ?_ _)); exact BK218.out) hb); have n2_ := Aside0.mk (z11q (by repeat (first | (with_reducible first | exact HB.out | apply z02q | apply z00q | apply z01q | refine z03q ?_ GE218.out) | exact HB.out)) hb); clear BK218; clear HB; have HO221 := n0_; have BK218 := n1_; have HB := n2_; clear n0_ n1_ n2_; (try clear hb); (try clear hb2); (try clear hk); (try clear hi); (try clear ho0); obtain ⟨Ao7, co7, eo7⟩ := Kd.R_slice HO221.out; subst eo7) | ((with_reducible refine z16q (f := 47) rfl ?_); refine goesL_ (some 11) rfl rfl Try.func47 (by kernel_rfl) rfl #[.bool (decide (a0 < 0)), .slice Ao7 t219.length co7] rfl (by (try simp only [List.map_toArray, List.map_cons, List.map_nil]); first | done | rfl | (simp only [List.length_drop, List.length_take]; rfl)) ?_; (with_reducible refine (whole_Make.calls k (decide (a0 < 0)) _ _ t219 t222 t223 _ ?side1 ?side2 A4.out).mono ?_); (case side1 => repeat (first | exact (Kd.R_reads' HO221.out).2.2 | (with_reducible refine Kd.C_alloc ?_ _) | (with_reducible refine Kd.C_drewN ?_ _) | (with_reducible refine Kd.C_drew ?_))); (case side2 => exact (Kd.R_reads' HO221.out).2.1); rintro e w8 ⟨v224, rfl, ho0, hb⟩; refine ⟨_, rfl, ?_⟩; have n0_ := Aside0.mk (Kd.R_elder' (by (with_reducible repeat (first | apply Kd.R_alloc | apply Kd.R_drewN | apply Kd.R_drew)); exact HO221.out) (Kd.R_base ho0) hb); have n1_ := Aside0.mk (Kd.R_lower (Kd.R_new' ho0 (Kd.R_lt (by (with_reducible repeat (first | apply Kd.R_alloc | apply Kd.R_drewN | apply Kd.R_drew)); exact HO221.out))) (z10q (by repeat (first | (with_reducible first | exact HB.out | apply z02q | apply z00q | apply z01q | refine z03q ?_ GE218.out) | exact HB.out)))); have n2_ := Aside0.mk (z09q (g := gb218) (o := .cells #[.bool false, .slice none 0 0] 37 (0, 0)) (by (with_reducible repeat (first | refine z06q ?_ _ | refine z07q ?_ | refine z05q ?_ _)); exact BK218.out) hb); have n3_ := Aside0.mk (z11q (by repeat (first | (with_reducible first | exact HB.out | apply z02q | apply z00q | apply z01q | refine z03q ?_ GE218.out) | exact HB.out)) hb); clear HO221; clear BK218; clear HB; have HO221 := n0_; have HO225 := n1_; have BK218 := n2_; have HB := n3_; clear n0_ n1_ n2_ n3_; (try clear hb); (try clear hb2); (try clear hk); (try clear hi); (try clear ho0); have hcz9_0 : w8.cell? ⟨gb218, 0, none⟩ = some (.bool false) := (z04q BK218.out 0).trans rfl; have hcz9_1 : w8.cell? ⟨gb218, 1, none⟩ = some (.slice none 0 0) := (z04q BK218.out 1).trans rfl; have hfz9_0 := z08q BK218.out 0; have hfz9_1 := z08q BK218.out 1; obtain ⟨Ao10, co10, eo10⟩ := Kd.R_slice HO225.out; subst eo10))
  refine bodyPost_ret (results_cell_row rfl _ _ gb218 37 #[.bool t222, .slice Ao10 t223.length co10] (0, 0) _ rfl (by (with_reducible repeat (first | refine z06q ?_ _ | refine z07q ?_ | refine z05q ?_ _)); refine blk_put (cs := #[.bool t222, .slice none 0 0]) ?_ 1 _ rfl; (with_reducible repeat (first | refine z06q ?_ _ | refine z07q ?_ | refine z05q ?_ _)); refine blk_put (cs := #[.bool false, .slice none 0 0]) ?_ 0 _ rfl; (with_reducible repeat (first | refine z06q ?_ _ | refine z07q ?_ | refine z05q ?_ _)); exact BK218.out) Try.underlying37 rfl (by kernel_rfl)) rfl ?_
  exact ⟨_, by first | rfl | (simp [z14q, z13q] <;> rfl) | (simp only [← hji2]; first | rfl | (simp [z14q, z13q] <;> rfl)) | (simp [*, z14q, z13q] <;> rfl), by (with_reducible repeat (first | apply Kd.R_alloc | apply Kd.R_drewN | apply Kd.R_drew)); exact Kd.R_mono (Kd.R_far (p := ⟨gb218, 1, none⟩) (Kd.R_far (p := ⟨gb218, 0, none⟩) (Kd.R_types HO225.out BK218.out (by decide)) (fun _ hk => hk.2) (.bool t222)) (fun _ hk => hk.2) (.slice Ao10 t223.length co10)) (fun _ hk => trivial), by repeat (first | (with_reducible first | exact HB.out | apply z02q | apply z00q | apply z01q | refine z03q ?_ GE218.out) | exact HB.out)⟩
end Go.Proofs.Ytgnffmbaecabnaa.M
