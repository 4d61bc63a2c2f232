-- Printed by a program of this session's own (wip/myprint.py), out of the kit's print with functions given by hand. Lean checks it.
import Derived.Test.YtgnffmbaecabnaaM0
import Derived.Test.YtgnffmbaecabnaaM1
namespace Go.Proofs.Ytgnffmbaecabnaa.M
open Go.RowKit Go.Shelf Go.Proofs.YtgnffmbaecabnaaW.PrintWords Go.Proofs.YtgnffmbaecabnaaW.PrintLast Go.Proofs.YtgnffmbaecabnaaW.PrintMore
attribute [local go_sem] z33q z31q max_two min_two z28q z27q z32q z30q   -- for this text's walks alone
set_option linter.unusedVariables false
set_option linter.unusedSimpArgs false
mutual
def nat_Shift.j0 : Nat → List Int → Int → Bool → Option (List Int)
  | 0, _, _, _ => none
  | k + 1, x0, x1, x14 => if x14 = true then ((nat_trim.f k x0).bind fun t131 => (some t131)) else (if 0 ≤ (wrap64 ((wrap64 ((x0.length : Int) + (wrap64 (Int.tdiv x1 32)))) + 1)) then (if (wrap64 ((wrap64 ((x0.length : Int) + (wrap64 (Int.tdiv x1 32)))) + 1) : Int).toNat ≤ 70368744177664 then (nat_Shift.l0 k x1 (List.replicate (wrap64 ((wrap64 ((x0.length : Int) + (wrap64 (Int.tdiv x1 32)))) + 1) : Int).toNat 0) x0 (x0.length : Int) 0) else (none)) else (none))
def nat_Shift.l0 : Nat → Int → List Int → List Int → Int → Int → Option (List Int)
  | 0, _, _, _, _, _ => none
  | k + 1, x1, x5, x24, x25, x26 => if x26 < x25 then (if 0 ≤ x26 then (if x26 < (x24.length : Int) then (if 0 ≤ (Int.tmod x1 32) then (if 0 ≤ (wrap64 (x26 + (wrap64 (Int.tdiv x1 32)))) then (if (wrap64 (x26 + (wrap64 (Int.tdiv x1 32)))) < (x5.length : Int) then ((some (x5.set ((wrap64 (x26 + (wrap64 (Int.tdiv x1 32)))) : Int).toNat (Go.bits .or .u32 (rd x5 (wrap64 (x26 + (wrap64 (Int.tdiv x1 32))))) ((shl .u64 (IntKind.u64.wrap (rd x24 x26)) (Int.tmod x1 32)) % 4294967296)) : List Int)).bind fun y139 => (if 0 ≤ (wrap64 ((wrap64 (x26 + (wrap64 (Int.tdiv x1 32)))) + 1)) then (if (wrap64 ((wrap64 (x26 + (wrap64 (Int.tdiv x1 32)))) + 1)) < (x5.length : Int) then (nat_Shift.l0 k x1 (y139.set ((wrap64 ((wrap64 (x26 + (wrap64 (Int.tdiv x1 32)))) + 1)) : Int).toNat (Go.bits .or .u32 (rd y139 (wrap64 ((wrap64 (x26 + (wrap64 (Int.tdiv x1 32)))) + 1))) (((shl .u64 (IntKind.u64.wrap (rd x24 x26)) (Int.tmod x1 32)) / 4294967296) % 4294967296))) x24 x25 (wrap64 (x26 + 1))) else (none)) else (none))) else (none)) else (none)) else (none)) else (none)) else (none)) else ((nat_trim.f k x5).bind fun t142 => (some t142))
end
def nat_Shift.f (k : Nat) (l0 : List Int) (a1 : Int) : Option (List Int) := if a1 < 0 then (nat_Shift.j0 k l0 a1 true) else (nat_Shift.j0 k l0 a1 (decide (a1 > 65536)))
theorem nat_Shift.mono_l : ∀ k, (∀ y0 y1 y2, LeO (nat_Shift.j0 k y0 y1 y2) (nat_Shift.j0 (k + 1) y0 y1 y2)) ∧ (∀ y0 y1 y2 y3 y4, LeO (nat_Shift.l0 k y0 y1 y2 y3 y4) (nat_Shift.l0 (k + 1) y0 y1 y2 y3 y4))
  | 0 => ⟨fun _ _ _ r h => by simp [nat_Shift.j0] at h, fun _ _ _ _ _ r h => by simp [nat_Shift.l0] at h⟩
  | k + 1 => by
    obtain ⟨ih0, ih1⟩ := nat_Shift.mono_l k
    refine ⟨?_, ?_⟩
    · intro y0 y1 y2
      unfold nat_Shift.j0
      repeat' first
      | (with_reducible exact ih0 _ _ _)
      | (with_reducible exact ih1 _ _ _ _ _)
      | (with_reducible exact nat_trim.mono _ _)
      | (with_reducible exact LeO.refl _)
      | (with_reducible exact LeO.none _)
      | (with_reducible refine LeO.ite ?_ ?_)
      | (with_reducible refine LeO.bind ?_ (fun _ => ?_))
      | exact ih0 _ _ _
      | exact ih1 _ _ _ _ _
      | exact nat_trim.mono _ _
      | exact LeO.none _
      | refine LeO.ite ?_ ?_
      | refine LeO.bind ?_ (fun _ => ?_)
    · intro y0 y1 y2 y3 y4
      unfold nat_Shift.l0
      repeat' first
      | (with_reducible exact ih0 _ _ _)
      | (with_reducible exact ih1 _ _ _ _ _)
      | (with_reducible exact nat_trim.mono _ _)
      | (with_reducible exact LeO.refl _)
      | (with_reducible exact LeO.none _)
      | (with_reducible refine LeO.ite ?_ ?_)
      | (with_reducible refine LeO.bind ?_ (fun _ => ?_))
      | exact ih0 _ _ _
      | exact ih1 _ _ _ _ _
      | exact nat_trim.mono _ _
      | exact LeO.none _
      | refine LeO.ite ?_ ?_
      | refine LeO.bind ?_ (fun _ => ?_)
theorem nat_Shift.mono : ∀ a0 a1 k, LeO (nat_Shift.f k a0 a1) (nat_Shift.f (k + 1) a0 a1) := by
  intro a0 a1 k
  obtain ⟨ih0, ih1⟩ := nat_Shift.mono_l k
  unfold nat_Shift.f
  repeat' first
      | (with_reducible exact ih0 _ _ _)
      | (with_reducible exact ih1 _ _ _ _ _)
      | (with_reducible exact nat_trim.mono _ _)
      | (with_reducible exact LeO.refl _)
      | (with_reducible exact LeO.none _)
      | (with_reducible refine LeO.ite ?_ ?_)
      | (with_reducible refine LeO.bind ?_ (fun _ => ?_))
      | exact ih0 _ _ _
      | exact ih1 _ _ _ _ _
      | exact nat_trim.mono _ _
      | exact LeO.none _
      | refine LeO.ite ?_ ?_
      | refine LeO.bind ?_ (fun _ => ?_)
set_option maxHeartbeats 8000000 in
set_option maxRecDepth 100000 in
theorem nat_Shift.calls (k : Nat) (A0 : Option Addr) (c0 : Nat) (l0 : List Int) (a1 : Int) (r : List Int) (w : World) (hr0 : Kd.C (Kd.int .u32) w A0 l0.length l0) (hc0 : l0.length ≤ c0) (h : nat_Shift.f k l0 a1 = some r) :
    Calls Try.prog 59 #[.slice A0 l0.length c0, .int .i64 a1] w fun e w' => ∃ v0_ : Value, e = .returned (v0_) ∧ Kd.R (Kd.int .u32) 96 w' w.heap.size (fun _ => True) v0_ r ∧ Below w.heap.size w w' := by
  have HR0 := Aside0.mk hr0
  have HC0 := Aside0.mk hc0
  clear hr0 hc0
  have HB := Aside0.mk (Below.refl w.heap.size w)
  have H : (if a1 < 0 then (nat_Shift.j0 k l0 a1 true) else (nat_Shift.j0 k l0 a1 (decide (a1 > 65536)))) = some r := h
  clear h
  have HC3 := Aside0.mk H
  clear H
  go_enter Try.func59, Try.ntmps59
  go_upto_region 1 with (fail)
  go_cut [14] (fun v14 wc => ∃ (kq : Nat) (x14_2 : Bool), v14 = .bool x14_2 ∧ Aside0 (nat_Shift.j0 kq l0 a1 x14_2 = some r) ∧ Aside0 (kq ≤ k) ∧ Aside0 (Below w.heap.size w wc))
  case first =>
    have H := HC3.out
    clear HC3
    by_cases c4 : a1 < 0
    · rw [if_pos c4] at H
      have c4b0 : decide (a1 < 0) = true := decide_eq_true c4
      clear c4
      (first | rw [c4b0] | (simp only [i64_w, i32_w]; rw [c4b0]) | skip)
      have H' := Aside0.mk H
      clear H
      go_wp2
      go_meet
      case rel => exact ⟨_, (true), (by first | rfl | (simp; done) | (simp [*]; done)), H', ⟨by first | omega | exact Nat.le_refl _⟩, ⟨by repeat (first | (with_reducible first | exact HB.out | apply z02q | apply z00q | apply z01q) | exact HB.out)⟩⟩
    · rw [if_neg c4] at H
      have c4b0 : decide (a1 < 0) = false := decide_eq_false c4
      clear c4
      (first | rw [c4b0] | (simp only [i64_w, i32_w]; rw [c4b0]) | skip)
      have H' := Aside0.mk H
      clear H
      go_wp2
      go_meet
      case rel => exact ⟨_, (decide (a1 > 65536)), (by first | rfl | (simp; done) | (simp [*]; done)), H', ⟨by first | omega | exact Nat.le_refl _⟩, ⟨by repeat (first | (with_reducible first | exact HB.out | apply z02q | apply z00q | apply z01q) | exact HB.out)⟩⟩
  case rest =>
    clear HC3
    try clear p2
    try clear c4
    try clear c4b0
    obtain ⟨kq, x14_2, rfl, HA, HJ2, HB⟩ := hcut
    cases kq with
    | zero => exact absurd HA.out (by simp [nat_Shift.j0])
    | succ kj2 =>
      have H := HA.out
      clear HA
      simp only [nat_Shift.j0] at H
      by_cases c5 : x14_2 = true
      · subst c5
        have H1 : ((nat_trim.f kj2 l0).bind fun t131 => (some t131)) = some r := by rw [if_pos rfl] at H; exact H
        clear H
        have H := H1
        clear H1
        replace H := Option.bind_eq_some_iff.mp H
        obtain ⟨t131, A60, H⟩ := H
        replace H : (some t131) = some r := H
        have A6 := Aside0.mk A60
        clear A60
        obtain rfl := Option.some.inj H
        go_wp2_with (first | ((with_reducible refine z16q (f := 50) rfl ?_); refine goesL_ (some 16) rfl rfl Try.func50 (by kernel_rfl) rfl #[.slice A0 l0.length c0] rfl (by (try simp only [List.map_toArray, List.map_cons, List.map_nil]); first | done | rfl | (simp only [List.length_drop, List.length_take]; rfl)) ?_; (with_reducible refine (nat_trim.calls kj2 _ _ l0 t131 _ ?side1 ?side2 A6.out).mono ?_); (case side1 => repeat (first | exact (Kd.C_below HR0.out HB.out) | (with_reducible refine Kd.C_alloc ?_ _) | (with_reducible refine Kd.C_drewN ?_ _) | (with_reducible refine Kd.C_drew ?_))); (case side2 => exact HC0.out); rintro e w7 ⟨v132, rfl, ho0, hb⟩; refine ⟨_, rfl, ?_⟩; have n0_ := Aside0.mk (Kd.R_lower ho0 (z10q (by repeat (first | (with_reducible first | exact HB.out | apply z02q | apply z00q | apply z01q) | exact HB.out)))); have n1_ := Aside0.mk (z11q (by repeat (first | (with_reducible first | exact HB.out | apply z02q | apply z00q | apply z01q) | exact HB.out)) hb); clear HB; have HO133 := n0_; have HB := n1_; clear n0_ n1_; (try clear hb); (try clear hb2); (try clear hk); (try clear hi); (try clear ho0)))
        go_ret
        exact ⟨_, by first | rfl | (simp [z14q, z13q] <;> rfl) | (simp [*, z14q, z13q] <;> rfl), by (with_reducible repeat (first | apply Kd.R_alloc | apply Kd.R_drewN | apply Kd.R_drew)); exact HO133.out, by repeat (first | (with_reducible first | exact HB.out | apply z02q | apply z00q | apply z01q) | exact HB.out)⟩
      · replace c5 := Bool.eq_false_iff.mpr c5
        subst c5
        have H1 : (if 0 ≤ (wrap64 ((wrap64 ((l0.length : Int) + (wrap64 (Int.tdiv a1 32)))) + 1)) then (if (wrap64 ((wrap64 ((l0.length : Int) + (wrap64 (Int.tdiv a1 32)))) + 1) : Int).toNat ≤ 70368744177664 then (nat_Shift.l0 kj2 a1 (List.replicate (wrap64 ((wrap64 ((l0.length : Int) + (wrap64 (Int.tdiv a1 32)))) + 1) : Int).toNat 0) l0 (l0.length : Int) 0) else (none)) else (none)) = some r := by rw [if_neg (show ¬ (false = true) by decide)] at H; exact H
        clear H
        have H := H1
        clear H1
        obtain ⟨ji8, hji8⟩ : ∃ j_ : Int, (wrap64 ((wrap64 ((l0.length : Int) + (wrap64 (Int.tdiv a1 32)))) + 1)) = j_ := ⟨_, rfl⟩
        replace H : (if 0 ≤ (ji8) then (if (ji8 : Int).toNat ≤ 70368744177664 then (nat_Shift.l0 kj2 a1 (List.replicate (ji8 : Int).toNat 0) l0 (l0.length : Int) 0) else (none)) else (none)) = some r := by first | (rw [hji8] at H; exact H) | (simp only [hji8] at H ⊢; exact H)
        have hji8w : (IntKind.i64.wrap ((wrap64 ((l0.length : Int) + (wrap64 (Int.tdiv a1 32)))) + 1)) = ji8 := (i64_w _).trans hji8
        by_cases c9 : 0 ≤ (ji8)
        · rw [if_pos c9] at H
          have c9b0 := eq_true c9
          have c9b1 : decide (0 ≤ (ji8)) = true := decide_eq_true c9
          clear c9
          by_cases c10 : (ji8 : Int).toNat ≤ 70368744177664
          · rw [if_pos c10] at H
            have c10b0 := eq_true c10
            have c10b1 : decide ((ji8 : Int).toNat ≤ 70368744177664) = true := decide_eq_true c10
            clear c10
            obtain ⟨y134, hy134⟩ : ∃ y_ : List Int, y_ = (List.replicate (ji8 : Int).toNat 0) := ⟨_, rfl⟩
            replace H : (nat_Shift.l0 kj2 a1 y134 l0 (l0.length : Int) 0) = some r := by first | (rw [hy134]; with_reducible exact H) | (have H2_ := (Option.bind_some _ _).symm.trans H; rw [hy134]; with_reducible exact H2_) | (have H2_ := (Option.bind_some _ _).symm.trans H; with_reducible exact H2_) | with_reducible exact H | (rw [hy134]; exact H) | exact H
            have Ny134 := Aside0.mk hy134
            clear hy134
            have H' := Aside0.mk H
            clear H
            go_wp2_with (first | ((with_reducible refine z18q (N := 23) rfl ?_); refine Kd.R_make (Kd.int .u32) _ 96 rfl (N := 23) rfl 35 _ _ rfl ji8 rfl rfl Try.underlying35 (.int .u32 0) 4 info96 rfl (by decide) (by omega) 0 (ok := fun _ => True) (okp := fun _ => True) rfl (fun _ hk => hk) trivial (of_decide_eq_true (by first | (with_reducible assumption) | assumption)) (Nat.le_trans (Nat.mul_le_mul_right _ (of_decide_eq_true (by first | (with_reducible assumption) | assumption) : ji8.toNat ≤ 70368744177664)) (by omega)) (Below.refl _ _) (Nat.le_refl _) ?_; intro v135 w11 ho12 hb hg_ hnew_; clear hg_ hnew_; (first | rw [← Ny134.out] at ho12 | (simp only [Int.reduceToNat] at ho12; rw [← Ny134.out] at ho12)); have n0_ := Aside0.mk (Kd.R_lower ho12 (z10q (by repeat (first | (with_reducible first | exact HB.out | apply z02q | apply z00q | apply z01q) | exact HB.out)))); have n1_ := Aside0.mk (z11q (by repeat (first | (with_reducible first | exact HB.out | apply z02q | apply z00q | apply z01q) | exact HB.out)) hb); clear HB; have HO136 := n0_; have HB := n1_; clear n0_ n1_; clear hb ho12))
            go_loopg [26] kj2 (fun kq v26 w' => ∃ (x5_2 : List Int) (x26_2 : Int), v26 = .int .i64 x26_2 ∧ Aside0 (nat_Shift.l0 kq a1 x5_2 l0 (l0.length : Int) x26_2 = some r) ∧ Aside0 (kq ≤ kj2) ∧ Aside0 (Kd.R (Kd.int .u32) 96 w' w.heap.size (fun _ => True) v135 x5_2) ∧ Aside0 (Below w.heap.size w w'))
            case atStart => exact ⟨(y134), (0), (by first | rfl | (simp; done) | (simp [*]; done)), H', ⟨Nat.le_refl _⟩, ⟨by (with_reducible repeat (first | apply Kd.R_alloc | apply Kd.R_drewN | apply Kd.R_drew)); exact HO136.out⟩, ⟨by repeat (first | (with_reducible first | exact HB.out | apply z02q | apply z00q | apply z01q) | exact HB.out)⟩⟩
            case round =>
              clear H'
              try clear c1
              try clear p2
              try clear c4
              try clear c4b0
              try clear c5
              try clear p6
              try clear c9
              try clear c9b0
              try clear c9b1
              try clear c10
              try clear c10b0
              try clear c10b1
              try clear p2
              obtain ⟨x5_2, x26_2, rfl, HA, HK2, HO_5, HB⟩ := hrel
              cases gk with
              | zero => exact absurd HA.out (by simp [nat_Shift.l0])
              | succ k2 =>
                have H := HA.out
                clear HA
                simp only [nat_Shift.l0] at H
                by_cases c13 : x26_2 < (l0.length : Int)
                · rw [if_pos c13] at H
                  have c13b0 : decide (x26_2 < (l0.length : Int)) = true := decide_eq_true c13
                  clear c13
                  by_cases c14 : 0 ≤ x26_2
                  · rw [if_pos c14] at H
                    have c14b0 : decide (0 ≤ x26_2) = true := decide_eq_true c14
                    clear c14
                    by_cases c15 : x26_2 < (l0.length : Int)
                    · rw [if_pos c15] at H
                      have c15b0 : decide (x26_2 < (l0.length : Int)) = true := decide_eq_true c15
                      clear c15
                      obtain ⟨ji16, hji16⟩ : ∃ j_ : Int, (Int.tmod a1 32) = j_ := ⟨_, rfl⟩
                      replace H : (if 0 ≤ (ji16) then (if 0 ≤ (wrap64 (x26_2 + (wrap64 (Int.tdiv a1 32)))) then (if (wrap64 (x26_2 + (wrap64 (Int.tdiv a1 32)))) < (x5_2.length : Int) then ((some (x5_2.set ((wrap64 (x26_2 + (wrap64 (Int.tdiv a1 32)))) : Int).toNat (Go.bits .or .u32 (rd x5_2 (wrap64 (x26_2 + (wrap64 (Int.tdiv a1 32))))) ((shl .u64 (IntKind.u64.wrap (rd l0 x26_2)) (ji16)) % 4294967296)) : List Int)).bind fun y139 => (if 0 ≤ (wrap64 ((wrap64 (x26_2 + (wrap64 (Int.tdiv a1 32)))) + 1)) then (if (wrap64 ((wrap64 (x26_2 + (wrap64 (Int.tdiv a1 32)))) + 1)) < (x5_2.length : Int) then (nat_Shift.l0 k2 a1 (y139.set ((wrap64 ((wrap64 (x26_2 + (wrap64 (Int.tdiv a1 32)))) + 1)) : Int).toNat (Go.bits .or .u32 (rd y139 (wrap64 ((wrap64 (x26_2 + (wrap64 (Int.tdiv a1 32)))) + 1))) (((shl .u64 (IntKind.u64.wrap (rd l0 x26_2)) (ji16)) / 4294967296) % 4294967296))) l0 (l0.length : Int) (wrap64 (x26_2 + 1))) else (none)) else (none))) else (none)) else (none)) else (none)) = some r := by first | (rw [hji16] at H; exact H) | (simp only [hji16] at H ⊢; exact H)
                      by_cases c17 : 0 ≤ (ji16)
                      · rw [if_pos c17] at H
                        have c17b0 := eq_true c17
                        have c17b1 : decide (0 ≤ (ji16)) = true := decide_eq_true c17
                        clear c17
                        obtain ⟨ji18, hji18⟩ : ∃ j_ : Int, (shl .u64 (IntKind.u64.wrap (rd l0 x26_2)) (ji16)) = j_ := ⟨_, rfl⟩
                        replace H : (if 0 ≤ (wrap64 (x26_2 + (wrap64 (Int.tdiv a1 32)))) then (if (wrap64 (x26_2 + (wrap64 (Int.tdiv a1 32)))) < (x5_2.length : Int) then ((some (x5_2.set ((wrap64 (x26_2 + (wrap64 (Int.tdiv a1 32)))) : Int).toNat (Go.bits .or .u32 (rd x5_2 (wrap64 (x26_2 + (wrap64 (Int.tdiv a1 32))))) ((ji18) % 4294967296)) : List Int)).bind fun y139 => (if 0 ≤ (wrap64 ((wrap64 (x26_2 + (wrap64 (Int.tdiv a1 32)))) + 1)) then (if (wrap64 ((wrap64 (x26_2 + (wrap64 (Int.tdiv a1 32)))) + 1)) < (x5_2.length : Int) then (nat_Shift.l0 k2 a1 (y139.set ((wrap64 ((wrap64 (x26_2 + (wrap64 (Int.tdiv a1 32)))) + 1)) : Int).toNat (Go.bits .or .u32 (rd y139 (wrap64 ((wrap64 (x26_2 + (wrap64 (Int.tdiv a1 32)))) + 1))) (((ji18) / 4294967296) % 4294967296))) l0 (l0.length : Int) (wrap64 (x26_2 + 1))) else (none)) else (none))) else (none)) else (none)) = some r := by first | (rw [hji18] at H; exact H) | (simp only [hji18] at H ⊢; exact H)
                        have hji18_ : (IntKind.u64.wrap ((IntKind.u64.wrap (rd l0 x26_2)) * 2 ^ min (ji16).toNat 64)) = ji18 := hji18
                        have hji18z : (ji16) ≤ 64 → (IntKind.u64.wrap ((IntKind.u64.wrap (rd l0 x26_2)) * 2 ^ (ji16).toNat)) = ji18 := shl_small hji18
                        obtain ⟨ji19, hji19⟩ : ∃ j_ : Int, (wrap64 (x26_2 + (wrap64 (Int.tdiv a1 32)))) = j_ := ⟨_, rfl⟩
                        replace H : (if 0 ≤ (ji19) then (if (ji19) < (x5_2.length : Int) then ((some (x5_2.set ((ji19) : Int).toNat (Go.bits .or .u32 (rd x5_2 (ji19)) ((ji18) % 4294967296)) : List Int)).bind fun y139 => (if 0 ≤ (wrap64 ((ji19) + 1)) then (if (wrap64 ((ji19) + 1)) < (x5_2.length : Int) then (nat_Shift.l0 k2 a1 (y139.set ((wrap64 ((ji19) + 1)) : Int).toNat (Go.bits .or .u32 (rd y139 (wrap64 ((ji19) + 1))) (((ji18) / 4294967296) % 4294967296))) l0 (l0.length : Int) (wrap64 (x26_2 + 1))) else (none)) else (none))) else (none)) else (none)) = some r := by first | (rw [hji19] at H; exact H) | (simp only [hji19] at H ⊢; exact H)
                        have hji19w : (IntKind.i64.wrap (x26_2 + (wrap64 (Int.tdiv a1 32)))) = ji19 := (i64_w _).trans hji19
                        by_cases c20 : 0 ≤ (ji19)
                        · rw [if_pos c20] at H
                          have c20b0 : decide (0 ≤ (ji19)) = true := decide_eq_true c20
                          clear c20
                          by_cases c21 : (ji19) < (x5_2.length : Int)
                          · rw [if_pos c21] at H
                            have c21b0 : decide ((ji19) < (x5_2.length : Int)) = true := decide_eq_true c21
                            clear c21
                            obtain ⟨y139, hy139⟩ : ∃ y_ : List Int, y_ = (x5_2.set ((ji19) : Int).toNat (Go.bits .or .u32 (rd x5_2 (ji19)) ((ji18) % 4294967296))) := ⟨_, rfl⟩
                            replace H : (if 0 ≤ (wrap64 ((ji19) + 1)) then (if (wrap64 ((ji19) + 1)) < (x5_2.length : Int) then (nat_Shift.l0 k2 a1 (y139.set ((wrap64 ((ji19) + 1)) : Int).toNat (Go.bits .or .u32 (rd y139 (wrap64 ((ji19) + 1))) (((ji18) / 4294967296) % 4294967296))) l0 (l0.length : Int) (wrap64 (x26_2 + 1))) else (none)) else (none)) = some r := by first | (rw [hy139]; with_reducible exact H) | (have H2_ := (Option.bind_some _ _).symm.trans H; rw [hy139]; with_reducible exact H2_) | (have H2_ := (Option.bind_some _ _).symm.trans H; with_reducible exact H2_) | with_reducible exact H | (rw [hy139]; exact H) | exact H
                            have Ny139 := Aside0.mk hy139
                            clear hy139
                            obtain ⟨ji23, hji23⟩ : ∃ j_ : Int, (wrap64 ((ji19) + 1)) = j_ := ⟨_, rfl⟩
                            replace H : (if 0 ≤ (ji23) then (if (ji23) < (x5_2.length : Int) then (nat_Shift.l0 k2 a1 (y139.set ((ji23) : Int).toNat (Go.bits .or .u32 (rd y139 (ji23)) (((ji18) / 4294967296) % 4294967296))) l0 (l0.length : Int) (wrap64 (x26_2 + 1))) else (none)) else (none)) = some r := by first | (rw [hji23] at H; exact H) | (simp only [hji23] at H ⊢; exact H)
                            have hji23w : (IntKind.i64.wrap ((ji19) + 1)) = ji23 := (i64_w _).trans hji23
                            by_cases c24 : 0 ≤ (ji23)
                            · rw [if_pos c24] at H
                              have c24b0 : decide (0 ≤ (ji23)) = true := decide_eq_true c24
                              clear c24
                              by_cases c25 : (ji23) < (x5_2.length : Int)
                              · rw [if_pos c25] at H
                                have c25b0 : decide ((ji23) < (x5_2.length : Int)) = true := decide_eq_true c25
                                clear c25
                                obtain ⟨y141, hy141⟩ : ∃ y_ : List Int, y_ = (y139.set ((ji23) : Int).toNat (Go.bits .or .u32 (rd y139 (ji23)) (((ji18) / 4294967296) % 4294967296))) := ⟨_, rfl⟩
                                replace H : (nat_Shift.l0 k2 a1 y141 l0 (l0.length : Int) (wrap64 (x26_2 + 1))) = some r := by first | (rw [hy141]; with_reducible exact H) | (have H2_ := (Option.bind_some _ _).symm.trans H; rw [hy141]; with_reducible exact H2_) | (have H2_ := (Option.bind_some _ _).symm.trans H; with_reducible exact H2_) | with_reducible exact H | (rw [hy141]; exact H) | exact H
                                have Ny141 := Aside0.mk hy141
                                clear hy141
                                have H' := Aside0.mk H
                                clear H
                                have p137 : 0 ≤ (x26_2 : Int) := of_decide_eq_true (by first | (with_reducible assumption) | assumption)
                                have q137 : x26_2 < (l0.length : Int) := of_decide_eq_true (by first | (with_reducible assumption) | assumption)
                                obtain ⟨ad137, e137, hx137_0⟩ := Kd.at_int HR0.out x26_2 p137 q137
                                cases e137
                                replace hx137_0 := (HB.out.cell (World.block_lt_of_cell? w _ hx137_0)).trans hx137_0
                                replace p137 := eq_true p137
                                replace q137 := eq_true q137
                                obtain ⟨Ao27, co27, eo27⟩ := Kd.R_slice HO_5.out
                                subst eo27
                                have p138 : 0 ≤ ((ji19) : Int) := of_decide_eq_true (by first | (with_reducible assumption) | assumption)
                                have q138 : (ji19) < (x5_2.length : Int) := of_decide_eq_true (by first | (with_reducible assumption) | assumption)
                                obtain ⟨ad138, e138, hx138_0⟩ := Kd.at_int (Kd.R_reads' HO_5.out).2.2 (ji19) p138 q138
                                cases e138
                                replace p138 := eq_true p138
                                replace q138 := eq_true q138
                                have p22 : 0 ≤ ((ji19) : Int) := of_decide_eq_true (by first | (with_reducible assumption) | assumption)
                                have q22 : ((ji19) : Int) < ((x5_2.length : Int) : Int) := of_decide_eq_true (by first | (with_reducible assumption) | assumption)
                                obtain ⟨go22, co22, eo22, gb22, gl22, cl22, HG22⟩ := Kd.R_form HO_5.out (by omega)
                                (first | cases eo22 | (injection eo22 with ea_ en_ ec_; (first | subst ea_ | (injection ea_ with ea_; subst ea_)); subst ec_; clear en_))
                                have GB22 := Aside0.mk gb22
                                have GG22 := Aside0.mk HG22
                                clear gb22 gl22 HG22
                                (first | simp only [add_plain] at hx138_0 | skip)
                                obtain ⟨hx22_0, hf22_0⟩ := Kd.R_celln 0 HO_5.out ((ji19) : Int) p22 q22
                                replace p22 := eq_true p22
                                replace q22 := eq_true q22
                                have HP28 := Kd.R_putg HO_5.out ((ji19) : Int) (Go.bits .or .u32 (rd x5_2 (ji19)) ((ji18) % 4294967296))
                                go_wp2_with (first | ((with_reducible refine gate_store (t := 96) (p := 46) rfl ?_); refine store_event (t := 96) (p := 46) (v := ?vo_w29) (w1 := (wr.setCell ⟨go22, ((ji19) : Int).toNat, none⟩ (.int .u32 (Go.bits .or .u32 (rd x5_2 (ji19)) ((ji18) % 4294967296))))) ?hg ?ho ?hn ?hr ?_; (case ho => rfl); (case hg => rfl); (case hn => rfl); (case hr => first | (go_simp; done) | (go_simp; rfl)); intro w29 hw; have hg : wr.grownBy w29 (some go22) := (by rw [hw]; exact HP28.2); have hp_ : Kd.R (Kd.int .u32) 96 w29 w.heap.size (fun _ => True) (.slice (some ⟨go22, 0, none⟩) x5_2.length co27) y139 := (by rw [hw, Ny139.out]; exact HP28.1); clear HP28; have n0_ := Aside0.mk (hp_); have n1_ := Aside0.mk ((by rw [hw]; exact z03q (HB.out) GB22.out : Below w.heap.size w w29)); clear HO_5; clear HB; have HO_5 := n0_; have HB := n1_; clear n0_ n1_; clear hg hw hp_; have p140 : 0 ≤ ((ji23) : Int) := of_decide_eq_true (by first | (with_reducible assumption) | assumption); have q140 : (ji23) < (y139.length : Int) := (by have h_ : ((ji23) : Int) < ((x5_2.length : Int) : Int) := of_decide_eq_true (by first | (with_reducible assumption) | assumption); first | (have e_ := (Kd.R_reads' HO_5.out).1; omega) | simpa only [Ny139.out, List.length_set] using h_); have ql140 : (((ji23) : Int) < ((x5_2.length : Int) : Int)) = True := eq_true (of_decide_eq_true (by first | (with_reducible assumption) | assumption)); obtain ⟨ad140, e140, hx140_0⟩ := Kd.at_int (Kd.R_reads' HO_5.out).2.2 (ji23) p140 q140; obtain rfl : (⟨go22, 0, none⟩ : Addr) = ad140 := (by injection e140); (first | simp only [add_plain] at hx140_0 | simp only [add_at] at hx140_0 | simp only [Addr.add, Nat.zero_add] at hx140_0 | skip); replace p140 := eq_true p140; replace q140 := eq_true q140; have p26 : 0 ≤ ((ji23) : Int) := of_decide_eq_true (by first | (with_reducible assumption) | assumption); have q26 : ((ji23) : Int) < ((x5_2.length : Int) : Int) := of_decide_eq_true (by first | (with_reducible assumption) | assumption); obtain ⟨hx26_0, hf26_0⟩ := Kd.R_celln 0 HO_5.out ((ji23) : Int) p26 q26; replace p26 := eq_true p26; replace q26 := eq_true q26; obtain ⟨hy30_, hz30_⟩ := Kd.R_celln 0 HO_5.out ((ji23) : Int) (of_decide_eq_true (by first | (with_reducible assumption) | assumption)) (of_decide_eq_true (by first | (with_reducible assumption) | assumption)); have HP30 := Kd.R_putg HO_5.out ((ji23) : Int) (Go.bits .or .u32 (rd y139 (ji23)) (((ji18) / 4294967296) % 4294967296))) | ((with_reducible refine gate_store (t := 96) (p := 59) rfl ?_); refine store_event (t := 96) (p := 59) (v := ?vo_w31) (w1 := (w29.setCell ⟨go22, ((ji23) : Int).toNat, none⟩ (.int .u32 (Go.bits .or .u32 (rd y139 (ji23)) (((ji18) / 4294967296) % 4294967296))))) ?hg ?ho ?hn ?hr ?_; (case ho => rfl); (case hg => rfl); (case hn => rfl); (case hr => first | (go_simp; done) | (go_simp; rfl)); intro w31 hw; have hg : w29.grownBy w31 (some go22) := (by rw [hw]; exact HP30.2); have hp_ : Kd.R (Kd.int .u32) 96 w31 w.heap.size (fun _ => True) (.slice (some ⟨go22, 0, none⟩) x5_2.length co27) y141 := (by rw [hw, Ny141.out]; exact HP30.1); clear HP30; have n0_ := Aside0.mk (hp_); have n1_ := Aside0.mk ((by rw [hw]; exact z03q (HB.out) GB22.out : Below w.heap.size w w31)); clear HO_5; clear HB; have HO_5 := n0_; have HB := n1_; clear n0_ n1_; clear hg hw hp_))
                                go_roundg k2
                                case measure => have := HJ2.out; have := HK2.out; omega
                                case rel => exact ⟨(y141), (wrap64 (x26_2 + 1)), (by first | rfl | (simp; done) | (simp [*]; done)), H', ⟨by have := HJ2.out; have := HK2.out; omega⟩, ⟨by (with_reducible repeat (first | apply Kd.R_alloc | apply Kd.R_drewN | apply Kd.R_drew)); exact HO_5.out⟩, ⟨by repeat (first | (with_reducible first | exact HB.out | apply z02q | apply z00q | apply z01q) | exact HB.out)⟩⟩
                              · rw [if_neg c25] at H
                                exact absurd H (by simp)
                            · rw [if_neg c24] at H
                              exact absurd H (by simp)
                          · rw [if_neg c21] at H
                            exact absurd H (by simp)
                        · rw [if_neg c20] at H
                          exact absurd H (by simp)
                      · rw [if_neg c17] at H
                        exact absurd H (by simp)
                    · rw [if_neg c15] at H
                      exact absurd H (by simp)
                  · rw [if_neg c14] at H
                    exact absurd H (by simp)
                · rw [if_neg c13] at H
                  have c13b0 : decide (x26_2 < (l0.length : Int)) = false := decide_eq_false c13
                  clear c13
                  replace H := Option.bind_eq_some_iff.mp H
                  obtain ⟨t142, A320, H⟩ := H
                  replace H : (some t142) = some r := H
                  have A32 := Aside0.mk A320
                  clear A320
                  obtain rfl := Option.some.inj H
                  obtain ⟨Ao33, co33, eo33⟩ := Kd.R_slice HO_5.out
                  subst eo33
                  go_wp2_with (first | ((with_reducible refine z16q (f := 50) rfl ?_); refine goesL_ (some 62) rfl rfl Try.func50 (by kernel_rfl) rfl #[.slice Ao33 x5_2.length co33] rfl (by (try simp only [List.map_toArray, List.map_cons, List.map_nil]); first | done | rfl | (simp only [List.length_drop, List.length_take]; rfl)) ?_; (with_reducible refine (nat_trim.calls k2 _ _ x5_2 t142 _ ?side1 ?side2 A32.out).mono ?_); (case side1 => repeat (first | exact (Kd.R_reads' HO_5.out).2.2 | (with_reducible refine Kd.C_alloc ?_ _) | (with_reducible refine Kd.C_drewN ?_ _) | (with_reducible refine Kd.C_drew ?_))); (case side2 => exact (Kd.R_reads' HO_5.out).2.1); rintro e w34 ⟨v143, rfl, ho0, hb⟩; refine ⟨_, rfl, ?_⟩; have n0_ := Aside0.mk (Kd.R_elder' (by (with_reducible repeat (first | apply Kd.R_alloc | apply Kd.R_drewN | apply Kd.R_drew)); exact HO_5.out) (Kd.R_base ho0) hb); have n1_ := Aside0.mk (Kd.R_lower (Kd.R_new' ho0 (Kd.R_lt (by (with_reducible repeat (first | apply Kd.R_alloc | apply Kd.R_drewN | apply Kd.R_drew)); exact HO_5.out))) (z10q (by repeat (first | (with_reducible first | exact HB.out | apply z02q | apply z00q | apply z01q) | exact HB.out)))); have n2_ := Aside0.mk (z11q (by repeat (first | (with_reducible first | exact HB.out | apply z02q | apply z00q | apply z01q) | exact HB.out)) hb); clear HO_5; clear HB; have HO_5 := n0_; have HO144 := n1_; have HB := n2_; clear n0_ n1_ n2_; (try clear hb); (try clear hb2); (try clear hk); (try clear hi); (try clear ho0)))
                  go_ret
                  exact ⟨_, by first | rfl | (simp [z14q, z13q] <;> rfl) | (simp only [← hji8]; first | rfl | (simp [z14q, z13q] <;> rfl)) | (simp [*, z14q, z13q] <;> rfl), by (with_reducible repeat (first | apply Kd.R_alloc | apply Kd.R_drewN | apply Kd.R_drew)); exact Kd.R_mono HO144.out (fun _ hk => trivial), by repeat (first | (with_reducible first | exact HB.out | apply z02q | apply z00q | apply z01q) | exact HB.out)⟩
          · rw [if_neg c10] at H
            exact absurd H (by simp)
        · rw [if_neg c9] at H
          exact absurd H (by simp)
def nat_Of.f (k : Nat) (a0 : Int) : Option (List Int) := (nat_trim.f k (([(a0) % 4294967296, (a0 / 4294967296) % 4294967296] : List Int))).bind fun t148 => (some t148)
theorem nat_Of.mono : ∀ a0 k, LeO (nat_Of.f k a0) (nat_Of.f (k + 1) a0) := by
  intro a0 k
  unfold nat_Of.f
  repeat' first
      | (with_reducible exact nat_trim.mono _ _)
      | (with_reducible exact LeO.refl _)
      | (with_reducible exact LeO.none _)
      | (with_reducible refine LeO.ite ?_ ?_)
      | (with_reducible refine LeO.bind ?_ (fun _ => ?_))
      | exact nat_trim.mono _ _
      | exact LeO.none _
      | refine LeO.ite ?_ ?_
      | refine LeO.bind ?_ (fun _ => ?_)
set_option maxHeartbeats 8000000 in
set_option maxRecDepth 100000 in
theorem nat_Of.calls (k : Nat) (a0 : Int) (r : List Int) (w : World) (h : nat_Of.f k a0 = some r) :
    Calls Try.prog 38 #[.int .u64 a0] w fun e w' => ∃ v0_ : Value, e = .returned (v0_) ∧ Kd.R (Kd.int .u32) 96 w' w.heap.size (fun _ => True) v0_ r ∧ Below w.heap.size w w' := by
  have HB := Aside0.mk (Below.refl w.heap.size w)
  have H : ((nat_trim.f k (([(a0) % 4294967296, (a0 / 4294967296) % 4294967296] : List Int))).bind fun t148 => (some t148)) = some r := h
  clear h
  obtain ⟨y145, hy145⟩ : ∃ y_ : List Int, y_ = (([(a0) % 4294967296, (a0 / 4294967296) % 4294967296] : List Int)) := ⟨_, rfl⟩
  replace H : ((nat_trim.f k y145).bind fun t148 => (some t148)) = some r := by first | (rw [hy145]; with_reducible exact H) | (have H2_ := (Option.bind_some _ _).symm.trans H; rw [hy145]; with_reducible exact H2_) | (have H2_ := (Option.bind_some _ _).symm.trans H; with_reducible exact H2_) | with_reducible exact H | (rw [hy145]; exact H) | exact H
  have Ny145 := Aside0.mk hy145
  clear hy145
  replace H := Option.bind_eq_some_iff.mp H
  obtain ⟨t148, A20, H⟩ := H
  replace H : (some t148) = some r := H
  have A2 := Aside0.mk A20
  clear A20
  obtain rfl := Option.some.inj H
  go_enter Try.func38, Try.ntmps38
  go_wp2_with (first | ((with_reducible refine z18q (N := 8) rfl ?_); refine Kd.R_lit (Kd.int .u32) _ 96 ?hg (N := 8) ?hd (xs := ([(a0) % 4294967296, (a0 / 4294967296) % 4294967296] : List Int)) (inner := [.int .u32 ((a0) % 4294967296), .int .u32 ((a0 / 4294967296) % 4294967296)]) (ok := fun _ => True) (okp := fun _ => True) ?hr ?hp (fun _ hk => hk) trivial (Below.refl _ _) (Nat.le_refl _) (by simp) ?_; (case hd => rfl); (case hg => rfl); (case hr => first | (go_simp; done) | (go_simp; rfl)); (case hp => exact (Reps.one (show Kd.M (Kd.int .u32) _ _ _ ((a0) % 4294967296) [.int .u32 ((a0) % 4294967296)] from rfl) (Reps.one (show Kd.M (Kd.int .u32) _ _ _ ((a0 / 4294967296) % 4294967296) [.int .u32 ((a0 / 4294967296) % 4294967296)] from rfl) (Reps.none _ _)))); intro v146 w3 ho4 hb hg_ hnew_; clear hg_ hnew_; (first | rw [← Ny145.out] at ho4 | (simp only [Int.reduceToNat] at ho4; rw [← Ny145.out] at ho4)); have n0_ := Aside0.mk (Kd.R_lower ho4 (z10q (by repeat (first | (with_reducible first | exact HB.out | apply z02q | apply z00q | apply z01q) | exact HB.out)))); have n1_ := Aside0.mk (z11q (by repeat (first | (with_reducible first | exact HB.out | apply z02q | apply z00q | apply z01q) | exact HB.out)) hb); clear HB; have HO147 := n0_; have HB := n1_; clear n0_ n1_; clear hb ho4; obtain ⟨Ao5, co5, eo5⟩ := Kd.R_slice HO147.out; subst eo5) | ((with_reducible refine z16q (f := 50) rfl ?_); refine goesL_ (some 9) rfl rfl Try.func50 (by kernel_rfl) rfl #[.slice Ao5 y145.length co5] rfl (by (try simp only [List.map_toArray, List.map_cons, List.map_nil]); first | done | rfl | (simp only [List.length_drop, List.length_take]; rfl)) ?_; (with_reducible refine (nat_trim.calls k _ _ y145 t148 _ ?side1 ?side2 A2.out).mono ?_); (case side1 => repeat (first | exact (Kd.R_reads' HO147.out).2.2 | (with_reducible refine Kd.C_alloc ?_ _) | (with_reducible refine Kd.C_drewN ?_ _) | (with_reducible refine Kd.C_drew ?_))); (case side2 => exact (Kd.R_reads' HO147.out).2.1); rintro e w6 ⟨v149, rfl, ho0, hb⟩; refine ⟨_, rfl, ?_⟩; have n0_ := Aside0.mk (Kd.R_elder' (by (with_reducible repeat (first | apply Kd.R_alloc | apply Kd.R_drewN | apply Kd.R_drew)); exact HO147.out) (Kd.R_base ho0) hb); have n1_ := Aside0.mk (Kd.R_lower (Kd.R_new' ho0 (Kd.R_lt (by (with_reducible repeat (first | apply Kd.R_alloc | apply Kd.R_drewN | apply Kd.R_drew)); exact HO147.out))) (z10q (by repeat (first | (with_reducible first | exact HB.out | apply z02q | apply z00q | apply z01q) | exact HB.out)))); have n2_ := Aside0.mk (z11q (by repeat (first | (with_reducible first | exact HB.out | apply z02q | apply z00q | apply z01q) | exact HB.out)) hb); clear HO147; clear HB; have HO147 := n0_; have HO150 := n1_; have HB := n2_; clear n0_ n1_ n2_; (try clear hb); (try clear hb2); (try clear hk); (try clear hi); (try clear ho0)))
  go_ret
  exact ⟨_, by first | rfl | (simp [z14q, z13q] <;> rfl) | (simp [*, z14q, z13q] <;> rfl), by (with_reducible repeat (first | apply Kd.R_alloc | apply Kd.R_drewN | apply Kd.R_drew)); exact Kd.R_mono HO150.out (fun _ hk => trivial), by repeat (first | (with_reducible first | exact HB.out | apply z02q | apply z00q | apply z01q) | exact HB.out)⟩
set_option maxRecDepth 100000
section
attribute [local go_sem] Oper.semAt_some
def bwd (n k : Nat) : List (Fin n) := (List.finRange n).reverse.take k
theorem bwd_succ (n k : Nat) (m : Nat) (hm : m < n) (h : m + 1 + k = n) : bwd n (k + 1) = bwd n k ++ [⟨m, hm⟩] := by
  unfold bwd
  have hk : k < (List.finRange n).reverse.length := by simp; omega
  rw [List.take_succ_eq_append_getElem hk]
  congr 2
  rw [List.getElem_reverse, List.getElem_finRange]
  apply Fin.ext
  simp
  omega
theorem bwd_length (n k : Nat) (h : k ≤ n) : (bwd n k).length = k := by simp [bwd]; omega
theorem bwd_all (n : Nat) : bwd n n = (List.finRange n).reverse := List.take_of_length_le (by simp)
def elt (zs : List Int) (x : Fin zs.length) : Int := zs.getD x.1 0
def noPanic (Q : Exit → Act → World → Prop) : Exit → Act → World → Prop
  | .panic _, _, _ => False
  | .normal, a, w => Q .normal a w
  | .ret, a, w => Q .ret a w
  | .exit id, a, w => Q (.exit id) a w
  | .goto t, a, w => Q (.goto t) a w
  | .outgrown, a, w => Q .outgrown a w
theorem wpIn_noPanic {F : Fence} {n : Nat} {P : Program} {c : Code} {Q : Exit → Act → World → Prop} {a : Act} {w : World} (h : c.wpIn F n P (noPanic Q) a w) : c.wpIn F n P Q a w :=
  wpIn_mono h (fun e _ _ h => by cases e <;> first | exact h | exact h.elim)
theorem R_set_below {α : Type} {d : Kd α} {e : Nat} {W : World} {base : Nat} {ok : Nat → Prop} {v : Value} {xs : List α} (h : Kd.R d e W base ok v xs) {p : Addr} (hp : p.block < base) (u : Value) : Kd.R d e (W.setCell p u) base (fun _ => True) v xs :=
  Kd.R_mono (Kd.R_far (Kd.R_bound h) (fun k hk => by have := hk.2.1; omega) u) (fun _ _ => trivial)
theorem R_C {α : Type} {d : Kd α} {e : Nat} {W : World} {base : Nat} {ok : Nat → Prop} {A : Option Addr} {n c : Nat} {xs : List α} (h : Kd.R d e W base ok (.slice A n c) xs) : d.C W A xs.length xs := by
  obtain ⟨A', c', he, _, hc⟩ := Kd.R_reads h
  cases he
  exact hc
theorem LeavesInM_nil {F : Fence} {n : Nat} {P : Program} {fn : Func} {a : Act} {R : Ending → World → Prop} {w : World} {v : Value} (hd : a.defers = []) (hv : (results fn a.tmps).run P w = .ok v w) (h : R (.returned v) w) : bodyPostM F n P fn R .ret a w := by
  show LeavesInM F n P fn a.tmps R a.defers .returning w
  rw [hd]
  exact ⟨v, hv, h⟩
def KeptB (n B : Nat) (W W' : World) : Prop := Below n W W' ∧ W'.heap[B]? = W.heap[B]?
theorem KeptB.t {n B : Nat} {A C D : World} (h : KeptB n B A C) (k : KeptB n B C D) : KeptB n B A D := ⟨h.1.trans k.1, k.2.trans h.2⟩
theorem KeptB.r (n B : Nat) (A : World) : KeptB n B A A := ⟨Below.refl _ _, rfl⟩
theorem KeptB.b {n B : Nat} {w : World} (hn : n ≤ w.heap.size) (hB : B < w.heap.size) (W : World) (l : Nat) (o o' : Obj) (hl : w.heap.size ≤ l) (h : W.heap[l]? = some o) (h1 : o.isCells = false) (h2 : o.isWalk = false) : KeptB n B W (W.putObj l o') :=
  ⟨belowK_b hn W l o o' hl h h1 h2, World.putObj_heap_other (by omega)⟩
theorem KeptB.below {n B : Nat} {W W' : World} (h : Below W.heap.size W W') (h1 : n ≤ W.heap.size) (h2 : B < W.heap.size) : KeptB n B W W' := ⟨h.mono h1, h.block B h2⟩
theorem KeptB.set {n B : Nat} (W : World) (p : Addr) (u : Value) (h1 : n ≤ p.block) (h2 : B ≠ p.block) : KeptB n B W (W.setCell p u) := ⟨(Below.refl n W).setCell h1 u, Below.heap_setCell W p u B h2⟩
theorem blk_add (a : Addr) (i : Nat) : (a.add i).block = a.block := by unfold Addr.add; split <;> rfl
theorem nat_Backward.in_ (F : Fence) (n : Nat) (hf : F.fn 58) (hro : F.round = none) (a : Option Addr) (len cap : Nat) (w : World) :
    CallsIn F n Try.prog 58 #[.slice a len cap] w fun e w' => e = .returned (.func (.func 64) #[] #[.pointer (some ⟨w.heap.size, 0, none⟩)]) ∧ w' = w.alloc (.cells #[.slice a len cap] 35) := by
  refine callsIn_of_wp Try.func58 rfl hf ?_ hro
  simp only [Try.ntmps58, List.size_toArray, List.length_cons, List.length_nil, Nat.reduceAdd, Nat.reduceSub, Array.replicate_succ, Array.replicate_zero, List.push_toArray, List.append_toArray, List.nil_append, List.cons_append]
  gi_wp2
  go_ret
  exact ⟨rfl, rfl⟩
set_option maxHeartbeats 2000000 in
theorem nat_Backward1.in_ (F : Fence) (n : Nat) (hf : F.fn 64) (hro : F.round = none) (hn : 1 ≤ n) (l Bs n₀ : Nat) (ad : Addr) (cap : Nat) (zs : List Int) (hlen : zs.length ≤ 9223372036854775807) (hb : ad.block < n₀) (J Jx : List (Fin zs.length) → World → Prop)
    (hY : ∀ pre x W, J pre W → pre.length < zs.length → YieldAt F (n - 1) Try.prog l #[.int .i64 (x.1 : Int), .int .u32 (elt zs x)] W fun e W' =>
      (e = .returned (.bool true) ∧ J (pre ++ [x]) W' ∧ KeptB n₀ Bs W W') ∨ (e = .returned (.bool false) ∧ Jx (pre ++ [x]) W'))
    (W : World) (hBs : W.cell? ⟨Bs, 0, none⟩ = some (.slice (some ad) zs.length cap)) (hc : ∀ j, j < zs.length → W.cell? (ad.add j) = some (.int .u32 (zs.getD j 0))) (h0 : J [] W) :
    CallsIn F n Try.prog 64 #[.func (.yield l) #[] #[], .pointer (some ⟨Bs, 0, none⟩)] W fun e W' => (∃ v, e = .returned v) ∧
      ((∃ ys, ys = bwd zs.length zs.length ∧ J ys W') ∨ (∃ pre, (∃ k, k ≤ zs.length ∧ pre = bwd zs.length k) ∧ Jx pre W')) := by
  have HC : Hid (∀ j, j < zs.length → W.cell? (ad.add j) = some (.int .u32 (zs.getD j 0))) := hc
  clear hc
  refine callsIn_of_wp Try.func64 rfl hf ?_ hro
  simp only [Try.ntmps64, List.size_toArray, List.length_cons, List.length_nil, Nat.reduceAdd, Nat.reduceSub, Array.replicate_succ, Array.replicate_zero, List.push_toArray, List.append_toArray, List.nil_append, List.cons_append]
  gi_wp2
  gi_loopw [3] (fun i wr => ∃ (x : Int) (k : Nat), i = .int .i64 x ∧ (x + 1 + k ≤ zs.length ∧ zs.length ≤ x + 1 + k) ∧ (0 ≤ x + 1) ∧ J (bwd zs.length k) wr ∧ KeptB n₀ Bs W wr)
    (fun i _ => (intOf i + 1).toNat)
  case atStart => exact ⟨(zs.length : Int) - 1, 0, rfl, by omega, by omega, h0, KeptB.r _ _ _⟩
  case round =>
    obtain ⟨x, k, rfl, hx1, hx0, hJs, hnx⟩ := hrel
    have hbs : wr.cell? ⟨Bs, 0, none⟩ = some (.slice (some ad) zs.length cap) := (World.cell?_of_block (a := ⟨Bs, 0, none⟩) hnx.2).trans hBs
    by_cases hlt : 0 ≤ x
    · obtain ⟨m, rfl⟩ : ∃ m : Nat, x = m := ⟨x.toNat, by omega⟩
      obtain ⟨y, hy0⟩ : ∃ y : Int, zs.getD m 0 = y := ⟨_, rfl⟩
      have hml : m < zs.length := by omega
      have hcx : wr.cell? (ad.add m) = some (.int .u32 y) := by
        rw [← hy0]
        exact (hnx.1.cell (p := ad.add m) (by rw [blk_add]; exact hb)).trans (HC.out m hml)
      obtain ⟨fn, tmps, assign, body, hy, hR⟩ := hY _ ⟨m, hml⟩ wr hJs (by rw [bwd_length _ _ (by omega)]; omega)
      dsimp only at hy
      rw [show elt zs ⟨m, hml⟩ = y from hy0] at hy
      clear hy0
      have hlt2 : (m : Int) < zs.length := by omega
      gi_wp2
      refine hR.mono ?_
      have hsucc : Hid (bwd zs.length (k + 1) = bwd zs.length k ++ [⟨m, hml⟩]) := bwd_succ _ _ _ hml (by omega)
      rintro e W3 (⟨rfl, hJ3, hk3⟩ | ⟨rfl, hJx3⟩)
      · gi_wp2
        go_roundw
        case rel => exact ⟨(m : Int) - 1, k + 1, rfl, by omega, by omega, by rw [hsucc.out]; exact hJ3, hnx.t hk3⟩
        case measure => simp [intOf]
      · gi_wp2
        refine bodyPost_ret (results_none rfl _ _ _) rfl ?_
        exact ⟨⟨_, rfl⟩, .inr ⟨_, ⟨k + 1, by omega, hsucc.out.symm⟩, hJx3⟩⟩
    · have hk : k = zs.length := by omega
      have HK : Hid (k = zs.length) := hk
      clear hk
      gi_wp2
      go_end0
      exact ⟨⟨_, rfl⟩, .inl (by have hJs' := hJs; rw [HK.out] at hJs'; exact hJs')⟩
theorem nat_Backward1.nil_in (F : Fence) (n : Nat) (hf : F.fn 64) (hro : F.round = none) (l Bs : Nat) (A : Option Addr) (cap : Nat) {α : Type} (J : List α → World → Prop) (W : World) (hBs : W.cell? ⟨Bs, 0, none⟩ = some (.slice A 0 cap)) (h0 : J [] W) :
    CallsIn F n Try.prog 64 #[.func (.yield l) #[] #[], .pointer (some ⟨Bs, 0, none⟩)] W fun e W' => (∃ v, e = .returned v) ∧ J [] W' := by
  refine callsIn_of_wp Try.func64 rfl hf ?_ hro
  simp only [Try.ntmps64, List.size_toArray, List.length_cons, List.length_nil, Nat.reduceAdd, Nat.reduceSub, Array.replicate_succ, Array.replicate_zero, List.push_toArray, List.append_toArray, List.nil_append, List.cons_append]
  gi_wp2
  gi_loopw [3] (fun i wr => i = .int .i64 (-1) ∧ J [] wr) (fun _ _ => 0)
  case atStart => exact ⟨rfl, h0⟩
  case round =>
    obtain ⟨rfl, hJs⟩ := hrel
    gi_wp2
    go_end0
    exact ⟨⟨_, rfl⟩, hJs⟩
theorem nat_Backward.stops (F : Fence) (n : Nat) (hf : F.fn 64) (hro : F.round = none) (hn : 1 ≤ n) (Bs n₀ : Nat) (A : Option Addr) (cap : Nat) (zs : List Int) (w : World) (hBs : Bs < w.heap.size) (hn₀ : n₀ ≤ Bs)
    (hc : w.cell? ⟨Bs, 0, none⟩ = some (.slice A zs.length cap)) (w0 : World) (hw0 : w0.heap.size = n₀) (hB0 : Below n₀ w0 w) (hI : Kd.C (Kd.int .u32) w0 A zs.length zs) :
    SeqStopsK F n Try.prog 64 #[.pointer (some ⟨Bs, 0, none⟩)] (fun x : Fin zs.length => #[Value.int .i64 (x.1 : Int), Value.int .u32 (elt zs x)]) (KeptB n₀ Bs) (fun ys => ys = bwd zs.length zs.length)
      (fun pre => ∃ k, k ≤ zs.length ∧ pre = bwd zs.length k) zs.length w := fun l J Jx W hW _ _ hY h0 => by
  have hc' := (hW.cell (p := ⟨Bs, 0, none⟩) hBs).trans hc
  subst hw0
  have hI' : Kd.C (Kd.int .u32) W A zs.length zs := Kd.C_below hI (hB0.trans (hW.mono (by omega)))
  by_cases hz : zs.length = 0
  · have : zs = [] := List.length_eq_zero_iff.1 hz
    subst this
    exact (nat_Backward1.nil_in F n hf hro l Bs A cap J W hc' h0).mono fun e W' ⟨he, hj⟩ => ⟨he, .inl ⟨_, rfl, hj⟩⟩
  · obtain ⟨ad, rfl, hcell⟩ := hI'.2.2 (by omega)
    have hcells : ∀ j, j < zs.length → W.cell? (ad.add j) = some (.int .u32 (zs.getD j 0)) := fun j hj => by
      obtain ⟨c, _, hK, hcc⟩ := hcell j (zs.getD j 0) (by simp [List.getD, hj])
      have hK' : c = [Value.int .u32 (zs.getD j 0)] := hK
      have := hcc 0 (.int .u32 (zs.getD j 0)) (by rw [hK']; rfl)
      simpa [Kd.int, Kd.scalar] using this
    have hb : ad.block < w0.heap.size := by
      obtain ⟨ad', e, hc0⟩ := hI.2.2 (by omega)
      cases e
      obtain ⟨c, _, hK, hcc⟩ := hc0 0 (zs.getD 0 0) (by rw [List.getD_eq_getElem?_getD, List.getElem?_eq_getElem (show 0 < zs.length by omega)]; rfl)
      have hK' : c = [Value.int .u32 (zs.getD 0 0)] := hK
      have := World.block_lt_of_cell? w0 _ (hcc 0 (.int .u32 (zs.getD 0 0)) (by rw [hK']; rfl))
      rwa [blk_add] at this
    exact nat_Backward1.in_ F n hf hro hn l Bs w0.heap.size ad cap zs hI.2.1 hb J Jx hY W hc' hcells h0
end
set_option maxRecDepth 100000
section
attribute [local go_sem] Oper.semAt_some
def cmpAt (a b : List Int) : Nat → Int
  | 0 => 0
  | k + 1 => if a.getD k 0 < b.getD k 0 then -1 else if b.getD k 0 < a.getD k 0 then 1 else cmpAt a b k
def cmpW (a b : List Int) : Int := if a.length < b.length then -1 else if b.length < a.length then 1 else cmpAt a b a.length
theorem cmpAt_lt {a b : List Int} {k m : Nat} (hm : m < k) (h1 : ∀ j, m < j → j < k → a.getD j 0 = b.getD j 0) (h : a.getD m 0 < b.getD m 0) : cmpAt a b k = -1 := by
  induction k with
  | zero => omega
  | succ k ih =>
    unfold cmpAt
    by_cases e : m = k
    · subst e; rw [if_pos h]
    · have := h1 k (by omega) (by omega)
      rw [if_neg (by omega), if_neg (by omega)]
      exact ih (by omega) (fun j h2 h3 => h1 j h2 (by omega))
theorem cmpAt_gt {a b : List Int} {k m : Nat} (hm : m < k) (h1 : ∀ j, m < j → j < k → a.getD j 0 = b.getD j 0) (h : b.getD m 0 < a.getD m 0) : cmpAt a b k = 1 := by
  induction k with
  | zero => omega
  | succ k ih =>
    unfold cmpAt
    by_cases e : m = k
    · subst e; rw [if_neg (by omega), if_pos h]
    · have := h1 k (by omega) (by omega)
      rw [if_neg (by omega), if_neg (by omega)]
      exact ih (by omega) (fun j h2 h3 => h1 j h2 (by omega))
theorem cmpAt_eq {a b : List Int} {k : Nat} (h1 : ∀ j, j < k → a.getD j 0 = b.getD j 0) : cmpAt a b k = 0 := by
  induction k with
  | zero => rfl
  | succ k ih =>
    unfold cmpAt
    have := h1 k (by omega)
    rw [if_neg (by omega), if_neg (by omega)]
    exact ih (fun j h => h1 j (by omega))
theorem bwd_ini {n k : Nat} (hk : k ≤ n) {ini : List (Fin n)} {last : Fin n} (h : bwd n k = ini ++ [last]) : (∀ j, last.1 < j → (hj : j < n) → (⟨j, hj⟩ : Fin n) ∈ ini) := by
  intro j h1 h2
  have hk0 : 0 < k := by
    rcases Nat.eq_zero_or_pos k with rfl | h0
    · simp [bwd] at h
    · exact h0
  obtain ⟨k', rfl⟩ : ∃ k', k = k' + 1 := ⟨k - 1, by omega⟩
  rw [bwd_succ n k' (n - 1 - k') (by omega) (by omega)] at h
  obtain ⟨h3, h4⟩ := List.append_inj' h rfl
  subst h3
  have h5 : (⟨n - 1 - k', by omega⟩ : Fin n) = last := by simpa using h4
  have h6 : n - 1 - k' = last.1 := congrArg Fin.val h5
  clear h4 h5 h
  unfold bwd
  rw [List.mem_take_iff_getElem]
  refine ⟨n - 1 - j, by simp; omega, ?_⟩
  rw [List.getElem_reverse, List.getElem_finRange]
  apply Fin.ext
  simp
  omega
def nat_Compare.f (k : Nat) (l0 l1 : List Int) : Option Int := (nat_trim.f k l0).bind fun a => (nat_trim.f k l1).bind fun b => some (cmpW a b)
theorem nat_Compare.mono : ∀ a0 a1 k, LeO (nat_Compare.f k a0 a1) (nat_Compare.f (k + 1) a0 a1) := fun a0 a1 k => by
  unfold nat_Compare.f
  exact LeO.bind (nat_trim.mono _ _) (fun _ => LeO.bind (nat_trim.mono _ _) (fun _ => LeO.refl _))
set_option maxHeartbeats 4000000 in
theorem nat_Compare.calls (k : Nat) (A0 : Option Addr) (c0 : Nat) (l0 : List Int) (A1 : Option Addr) (c1 : Nat) (l1 : List Int) (r : Int) (w : World) (hr0 : Kd.C (Kd.int .u32) w A0 l0.length l0) (hc0 : l0.length ≤ c0) (hr1 : Kd.C (Kd.int .u32) w A1 l1.length l1) (hc1 : l1.length ≤ c1) (h : nat_Compare.f k l0 l1 = some r) :
    Calls Try.prog 45 #[.slice A0 l0.length c0, .slice A1 l1.length c1] w fun e w' => e = .returned (.int .i64 r) ∧ Below w.heap.size w w' := by
  obtain ⟨s, hs, h⟩ := Option.bind_eq_some_iff.mp h
  obtain ⟨t, ht, h⟩ := Option.bind_eq_some_iff.mp h
  obtain rfl := Option.some.inj h
  clear h
  rename_i h_1
  clear h_1
  have HS : Hid (nat_trim.f k l0 = some s) := hs
  have HT : Hid (nat_trim.f k l1 = some t) := ht
  clear ht hs
  have HR0 := Aside0.mk hr0
  have HC0 := Aside0.mk hc0
  have HR1 := Aside0.mk hr1
  have HC1 := Aside0.mk hc1
  clear hr0 hc0 hr1 hc1
  refine (callsIn_wide (n := 4)).1 ?_
  refine callsIn_of_wp_marks Try.func45 rfl trivial ?_ rfl
  refine wpIn_noPanic ?_
  have hmx : Try.prog.follows .mixedOrders = true := by kernel_rfl
  simp only [Try.ntmps45, List.size_toArray, List.length_cons, List.length_nil, Nat.reduceAdd, Nat.reduceSub, Array.replicate_succ, Array.replicate_zero, List.push_toArray, List.append_toArray, List.nil_append, List.cons_append]
  gi_wp2
  have hb0 : Aside0 (Below w.heap.size w ((w.alloc (.cells #[.slice A1 l1.length c1] 35)).alloc (.cells #[.int .i64 0] 3)).drew) := ⟨(((Below.refl _ w).alloc (Nat.le_refl _) _).alloc (by simp) _).drew⟩
  have bS := Boxed.new w 35 (.slice A1 l1.length c1)
  have bN := Boxed.new (w.alloc (.cells #[.slice A1 l1.length c1] 35)) 3 (.int .i64 0)
  rw [World.size_alloc] at bN
  have K0 : Aside0 (((w.alloc (.cells #[.slice A1 l1.length c1] 35)).alloc (.cells #[.int .i64 0] 3)).drew.cell? ⟨w.heap.size, 0, none⟩ = some (.slice A1 l1.length c1) ∧ ((w.alloc (.cells #[.slice A1 l1.length c1] 35)).alloc (.cells #[.int .i64 0] 3)).drew.frozen? ⟨w.heap.size, 0, none⟩ = false ∧ ((w.alloc (.cells #[.slice A1 l1.length c1] 35)).alloc (.cells #[.int .i64 0] 3)).drew.cell? ⟨w.heap.size + 1, 0, none⟩ = some (.int .i64 0) ∧ ((w.alloc (.cells #[.slice A1 l1.length c1] 35)).alloc (.cells #[.int .i64 0] 3)).drew.frozen? ⟨w.heap.size + 1, 0, none⟩ = false ∧ w.heap.size + 2 ≤ ((w.alloc (.cells #[.slice A1 l1.length c1] 35)).alloc (.cells #[.int .i64 0] 3)).drew.heap.size) := ⟨(bS.alloc _).cell, (bS.alloc _).frozen, bN.cell, bN.frozen, by simp⟩
  clear bS bN
  gi_region_with_o (first
    | (refine ⟨trivial, ?_⟩; gi_at_call 50; (with_reducible refine (callsIn_wide.2 (nat_trim.calls k A0 c0 l0 s _ (Kd.C_below HR0.out hb0.out) HC0.out HS.out)).mono ?_); rintro e w1 ⟨v1, rfl, hv1, hb1⟩; obtain ⟨A2, c2, rfl, hl2, hC2⟩ := Kd.R_reads hv1; have hz1 : w.heap.size + 2 ≤ w1.heap.size := Nat.le_trans K0.out.2.2.2.2 hb1.size; have k0 := z15q hb1 K0.out.1; have HV1 := Aside0.mk (Kd.R_lower hv1 K0.out.2.2.2.2); have HB1 : Aside0 (Below w.heap.size w w1) := ⟨hb0.out.trans (hb1.mono hb0.out.size)⟩; have F1 : Aside0 (w1.cell? ⟨w.heap.size, 0, none⟩ = some (.slice A1 l1.length c1) ∧ w1.frozen? ⟨w.heap.size, 0, none⟩ = false ∧ w1.cell? ⟨w.heap.size + 1, 0, none⟩ = some (.int .i64 0) ∧ w1.frozen? ⟨w.heap.size + 1, 0, none⟩ = false) := ⟨z15q hb1 K0.out.1, (hb1.frozen (p := ⟨w.heap.size, 0, none⟩) (World.block_lt_of_cell? _ _ K0.out.1)).trans K0.out.2.1, z15q hb1 K0.out.2.2.1, (hb1.frozen (p := ⟨w.heap.size + 1, 0, none⟩) (World.block_lt_of_cell? _ _ K0.out.2.2.1)).trans K0.out.2.2.2.1⟩; clear hv1 hb1 hC2)
    | (refine ⟨trivial, ?_⟩; gi_at_call 50; (with_reducible refine (callsIn_wide.2 (nat_trim.calls k A1 c1 l1 t _ (Kd.C_below HR1.out HB1.out) HC1.out HT.out)).mono ?_); rintro e w2 ⟨v2, rfl, hv2, hb2⟩; obtain ⟨A3, c3, rfl, hl3, hC3⟩ := Kd.R_reads hv2; have k2 := z15q hb2 F1.out.1; have k3 := (hb2.frozen (p := ⟨w.heap.size, 0, none⟩) (World.block_lt_of_cell? _ _ F1.out.1)).trans F1.out.2.1; have F2 : Aside0 (Kd.R (Kd.int .u32) 96 w2 (w.heap.size + 2) (fun _ => True) (.slice A2 s.length c2) s ∧ w2.cell? ⟨w.heap.size + 1, 0, none⟩ = some (.int .i64 0) ∧ w2.frozen? ⟨w.heap.size + 1, 0, none⟩ = false ∧ Below w.heap.size w w2 ∧ w.heap.size + 2 ≤ w2.heap.size ∧ Kd.R (Kd.int .u32) 96 w2 (w.heap.size + 2) (fun _ => True) (.slice A3 t.length c3) t) := ⟨Kd.R_below HV1.out hb2, z15q hb2 F1.out.2.2.1, (hb2.frozen (p := ⟨w.heap.size + 1, 0, none⟩) (World.block_lt_of_cell? _ _ F1.out.2.2.1)).trans F1.out.2.2.2, HB1.out.trans (hb2.mono HB1.out.size), Nat.le_trans hz1 hb2.size, Kd.R_lower hv2 hz1⟩; clear hv2 hb2 hC3))
  all_goals
    obtain ⟨f2, f3, f4, f5, f6, f7⟩ := F2.out
    have G1 := R_set_below f2 (p := ⟨w.heap.size, 0, none⟩) (by simp) (.slice A3 t.length c3)
    have G2 := R_set_below f7 (p := ⟨w.heap.size, 0, none⟩) (by simp) (.slice A3 t.length c3)
    have G3 := f5.setCell (p := ⟨w.heap.size, 0, none⟩) (Nat.le_refl _) (.slice A3 t.length c3)
    have G4 : (w2.setCell ⟨w.heap.size, 0, none⟩ (.slice A3 t.length c3)).cell? ⟨w.heap.size, 0, none⟩ = some (.slice A3 t.length c3) := World.cell?_setCell_same' _ _ _ (by rw [k2]; rfl)
    have G5 : (w2.setCell ⟨w.heap.size, 0, none⟩ (.slice A3 t.length c3)).cell? ⟨w.heap.size + 1, 0, none⟩ = some (.int .i64 0) := by rw [← f3]; exact World.cell?_of_block (a := ⟨w.heap.size + 1, 0, none⟩) (Below.heap_setCell w2 ⟨w.heap.size, 0, none⟩ _ (w.heap.size + 1) (by simp))
    have G6 : (w2.setCell ⟨w.heap.size, 0, none⟩ (.slice A3 t.length c3)).frozen? ⟨w.heap.size + 1, 0, none⟩ = false := by rw [World.frozen?_setCell]; exact f4
    have G7 : w.heap.size + 2 ≤ (w2.setCell ⟨w.heap.size, 0, none⟩ (.slice A3 t.length c3)).heap.size := by rw [World.size_setCell]; exact f6
    clear f2 f3 f4 f5 f6 f7 F2 k2 k3 k0
    clear F1 HV1 HB1 K0
    generalize (w2.setCell ⟨w.heap.size, 0, none⟩ (.slice A3 t.length c3)) = W at *
  all_goals
    by_cases hlen : s.length = t.length
    · have e1 : ((s.length : Int) != (t.length : Int)) = false := by simp [hlen]
      have e2 : (s.length == t.length) = true := by simp [hlen]
      have e3 : (s.length != t.length) = false := by simp [hlen]
      have HL : Hid (s.length = t.length) := hlen
      clear hlen
      gi_wp2_with (first | (refine ⟨trivial, ?_⟩; gi_at_call 58; refine (nat_Backward.in_ Fence.wide 3 trivial rfl _ _ _ _).mono ?_; rintro e w' ⟨rfl, rfl⟩))
      have hcS := R_C G1
      have hcT := R_C G2
      have bT := Boxed.new W 35 (.slice A2 s.length c2)
      have hBW : Below W.heap.size W (W.alloc (.cells #[.slice A2 s.length c2] 35)) := (Below.refl _ W).alloc (Nat.le_refl _) _
      refine wpIn_rangeFunc_ownG (n := 4) rfl (by decide) (gf := 64) (lb := #[.pointer (some ⟨W.heap.size, 0, none⟩)]) rfl trivial (enters_of Try.func64 (by kernel_rfl) rfl)
        (nat_Backward.stops Fence.wide 3 trivial rfl (by omega) W.heap.size W.heap.size A2 c2 s _ (by simp) (Nat.le_refl _) bT.cell W rfl hBW hcS) KeptB.t (KeptB.b (by simp) (by simp)) (Below.refl _ _) (fun _ => rfl)
        (fun pre V => ((∀ p ∈ pre, s.getD p.1 0 = t.getD p.1 0) ∧ V.cell? ⟨w.heap.size + 1, 0, none⟩ = some (.int .i64 0) ∧ V.frozen? ⟨w.heap.size + 1, 0, none⟩ = false) ∧ Below W.heap.size W V)
        (fun c pre V => (c = .ret ∧ ∃ ini last r, pre = ini ++ [last] ∧ (∀ p ∈ ini, s.getD p.1 0 = t.getD p.1 0) ∧ (s.getD last.1 0 < t.getD last.1 0 ∧ r = -1 ∨ t.getD last.1 0 < s.getD last.1 0 ∧ r = 1) ∧ V.cell? ⟨w.heap.size + 1, 0, none⟩ = some (.int .i64 r)) ∧ Below w.heap.size w V)
        (OwnFrom.and (Own.from (fun s A B row hs hg hr => ⟨hs.1, cell_kept hs.2.1 hg hr, (frozen_kept hs.2.1 hg hr).trans hs.2.2⟩) _) (ownFrom_below (by simp) (by simp)))
        (fun c => OwnFrom.and (Own.from (fun s A B row hs hg hr => by obtain ⟨hc, ini, last, r, e1, e2, e3, e4⟩ := hs; exact ⟨hc, ini, last, r, e1, e2, e3, cell_kept e4 hg hr⟩) _) (ownFrom_below (Nat.le_refl _) (by simp; omega)))
        ⟨⟨by simp, z15q hBW G5, (hBW.frozen (p := ⟨w.heap.size + 1, 0, none⟩) (World.block_lt_of_cell? _ _ G5)).trans G6⟩, hBW⟩
        (fun x => { tmps := #[.slice A2 s.length c2, .slice A1 l1.length c1, undef, .pointer (some ⟨w.heap.size, 0, none⟩), .pointer (some ⟨w.heap.size + 1, 0, none⟩), .int .i64 (x.1 : Int), .int .u32 (elt s x), .slice A0 l0.length c0, .slice A2 s.length c2, .slice A1 l1.length c1, .slice A3 t.length c3, .slice A2 s.length c2, .int .i64 s.length, .slice A3 t.length c3, .int .i64 t.length, .bool false, undef, undef, undef, undef, undef, undef, undef, .slice A2 s.length c2, .func (.func 64) #[] #[.pointer (some ⟨W.heap.size, 0, none⟩)], .int .i64 (x.1 : Int), .int .u32 (elt s x), undef, undef, undef, undef, undef, undef, undef, undef, undef, undef, undef, undef, undef, undef], defers := [] }) ?assign ?body ?done ?stop
      case assign =>
        intro l x V K hK
        gi_wp2
        exact hK
      case body =>
        rintro l pre x V ⟨⟨hp, hc, hf⟩, hB⟩ _
        have hxt : x.1 < t.length := by rw [← HL.out]; exact x.2
        have hbx := z15q hB G4
        obtain ⟨ad, ead, hcell⟩ := Kd.at_int (Kd.C_below hcT hB) (x.1 : Int) (by omega) (by omega)
        obtain ⟨y, hy⟩ : ∃ y : Int, rd t (x.1 : Int) = y := ⟨_, rfl⟩
        rw [hy] at hcell
        have HY : Hid (t.getD x.1 0 = y) := hy
        have hxt' : (x.1 : Int) < (t.length : Int) := by omega
        rw [show ((x.1 : Int)).toNat = x.1 from rfl] at hcell
        clear hy
        have hG3 := G3
        cases ead
        gi_wp2
        · have h1 : elt s x < y := by assumption
          exact ⟨(KeepsOthers.setCell _ _ _).from _, ⟨rfl, pre, x, -1, rfl, hp, .inl ⟨by rw [HY.out]; exact h1, rfl⟩, World.cell?_setCell_same' _ _ _ (by rw [hc]; rfl)⟩, (hG3.trans (hB.mono hG3.size)).setCell (p := ⟨w.heap.size + 1, 0, none⟩) (by simp) _⟩
        · have h1 : y < elt s x := by assumption
          exact ⟨(KeepsOthers.setCell _ _ _).from _, ⟨rfl, pre, x, 1, rfl, hp, .inr ⟨by rw [HY.out]; exact h1, rfl⟩, World.cell?_setCell_same' _ _ _ (by rw [hc]; rfl)⟩, (hG3.trans (hB.mono hG3.size)).setCell (p := ⟨w.heap.size + 1, 0, none⟩) (by simp) _⟩
        · have h1 : elt s x ≤ y := by assumption
          have h2 : y ≤ elt s x := by assumption
          exact ⟨KeepsFrom.refl _ _, KeptB.r _ _ _, ⟨fun p hp' => (List.mem_append.1 hp').elim (hp p) (fun e => by simp at e; subst e; rw [HY.out]; exact Int.le_antisymm h1 h2), hc, hf⟩, hB⟩
      case done =>
        rintro D ys V hD rfl ⟨⟨hp, hc, hf⟩, hB⟩ hK
        gi_wp2
        have hK' := (KeepsOthers.setCell V ⟨w.heap.size + 1, 0, none⟩ (.int .i64 0)).same D _ hK rfl
        refine ⟨by simp, .inl ⟨_, _, rfl, run_takeDeferred hK', ?_⟩⟩
        have hc5 := cell_kept (World.cell?_setCell_same' V ⟨w.heap.size + 1, 0, none⟩ (.int .i64 0) (by rw [hc]; rfl)) (grownBy_putObj' _ D (.deferred none)) (fun r e => by cases e; exact ⟨_, hK', rfl⟩)
        have hres : cmpW s t = 0 := by
          unfold cmpW
          have := HL.out
          rw [if_neg (by omega), if_neg (by omega)]
          exact cmpAt_eq fun j hj => hp ⟨j, hj⟩ (by rw [bwd_all]; simp)
        refine ⟨.int .i64 0, ?_, by rw [hres], ((G3.trans (hB.mono G3.size)).setCell (p := ⟨w.heap.size + 1, 0, none⟩) (by simp) _).trans (belowK_b (w := w) (Nat.le_refl _) _ D _ _ (by have := G3.size; simp at hD; omega) hK' rfl rfl)⟩
        simp [results, Try.f45, go_sem, hc5]
      case stop =>
        rintro D c pre V hD ⟨k, hk, rfl⟩ ⟨⟨rfl, ini, last, r, e1, e2, e3, hcr⟩, hB⟩ hK
        gi_wp2
        refine ⟨by simp, .inl ⟨_, _, rfl, run_takeDeferred hK, ?_⟩⟩
        have hc5 := cell_kept hcr (grownBy_putObj' _ D (.deferred none)) (fun r e => by cases e; exact ⟨_, hK, rfl⟩)
        have hini := bwd_ini hk e1
        have hres : cmpW s t = r := by
          unfold cmpW
          have := HL.out
          rw [if_neg (by omega), if_neg (by omega)]
          rcases e3 with ⟨h1, rfl⟩ | ⟨h1, rfl⟩
          · exact cmpAt_lt last.2 (fun j h2 h3 => e2 _ (hini j h2 h3)) h1
          · exact cmpAt_gt last.2 (fun j h2 h3 => e2 _ (hini j h2 h3)) h1
        refine ⟨.int .i64 r, ?_, by rw [hres], hB.trans (belowK_b (w := w) (Nat.le_refl _) V D _ _ (by have := G3.size; simp at hD; omega) hK rfl rfl)⟩
        simp [results, Try.f45, go_sem, hc5]
    · have e1 : ((s.length : Int) != (t.length : Int)) = true := by simp; omega
      have e2 : (s.length == t.length) = false := by simp [hlen]
      have e3 : (s.length != t.length) = true := by simp [hlen]
      have b1 := (R_C G1).2.1
      have b2 := (R_C G2).2.1
      by_cases hlt : s.length < t.length
      · have hcw : Hid (cmpW s t = -1) := by unfold cmpW; rw [if_pos hlt]; exact rfl
        have hlt' : (s.length : Int) < t.length := by omega
        clear hlen
        gi_wp2
        all_goals exact LeavesInM_nil rfl (v := .int .i64 (-1)) (by simp [results, Try.f45, go_sem, World.cell?_setCell_same' W ⟨w.heap.size + 1, 0, none⟩ _ (by rw [G5]; rfl)] <;> omega) ⟨by rw [hcw.out], G3.setCell (p := ⟨w.heap.size + 1, 0, none⟩) (by simp) _⟩
      · have hcw : Hid (cmpW s t = 1) := by unfold cmpW; rw [if_neg hlt, if_pos (by omega)]; exact rfl
        have hlt' : (t.length : Int) < s.length := by omega
        clear hlen
        gi_wp2
        all_goals exact LeavesInM_nil rfl (v := .int .i64 1) (by simp [results, Try.f45, go_sem, World.cell?_setCell_same' W ⟨w.heap.size + 1, 0, none⟩ _ (by rw [G5]; rfl)] <;> omega) ⟨by rw [hcw.out], G3.setCell (p := ⟨w.heap.size + 1, 0, none⟩) (by simp) _⟩
end
def nat_Sub.l0 : Nat → List Int → List Int → List Int → Int → Int → Int → Option (List Int × Bool)
  | 0, _, _, _, _, _, _ => none
  | k + 1, x0, x1, x6, x7, x18, x19 => if x19 < x18 then ((nat_at.f x0 x19).bind fun t155 => ((nat_at.f x1 x19).bind fun t156 => (if 0 ≤ x19 then (if x19 < (x6.length : Int) then (nat_Sub.l0 k x0 x1 (x6.set (x19 : Int).toNat ((IntKind.u64.wrap ((IntKind.u64.wrap (t155 - t156)) - x7)) % 4294967296)) ((IntKind.u64.wrap ((IntKind.u64.wrap (t155 - t156)) - x7)) / 9223372036854775808) x18 (wrap64 (x19 + 1))) else (none)) else (none)))) else ((nat_trim.f k x6).bind fun t158 => (some (t158, true)))
def nat_Sub.f (k : Nat) (l0 : List Int) (l1 : List Int) : Option (List Int × Bool) := (nat_Compare.f k l0 l1).bind fun t151 => (if t151 < 0 then (some (([] : List Int), false)) else (if 0 ≤ (l0.length : Int) then (if ((l0.length : Int) : Int).toNat ≤ 70368744177664 then ((some (List.replicate ((l0.length : Int) : Int).toNat 0 : List Int)).bind fun y152 => (nat_Sub.l0 k l0 l1 y152 0 (y152.length : Int) 0)) else (none)) else (none)))
theorem nat_Sub.mono_l : ∀ k, (∀ y0 y1 y2 y3 y4 y5, LeO (nat_Sub.l0 k y0 y1 y2 y3 y4 y5) (nat_Sub.l0 (k + 1) y0 y1 y2 y3 y4 y5))
  | 0 => fun _ _ _ _ _ _ r h => by simp [nat_Sub.l0] at h
  | k + 1 => by
    have ih0 := nat_Sub.mono_l k
    · intro y0 y1 y2 y3 y4 y5
      unfold nat_Sub.l0
      repeat' first
      | (with_reducible exact ih0 _ _ _ _ _ _)
      | (with_reducible exact nat_Compare.mono _ _ _)
      | (with_reducible exact nat_trim.mono _ _)
      | (with_reducible exact LeO.refl _)
      | (with_reducible exact LeO.none _)
      | (with_reducible refine LeO.ite ?_ ?_)
      | (with_reducible refine LeO.bind ?_ (fun _ => ?_))
      | exact ih0 _ _ _ _ _ _
      | exact nat_Compare.mono _ _ _
      | exact nat_trim.mono _ _
      | exact LeO.none _
      | refine LeO.ite ?_ ?_
      | refine LeO.bind ?_ (fun _ => ?_)
theorem nat_Sub.mono : ∀ a0 a1 k, LeO (nat_Sub.f k a0 a1) (nat_Sub.f (k + 1) a0 a1) := by
  intro a0 a1 k
  have ih0 := nat_Sub.mono_l k
  unfold nat_Sub.f
  repeat' first
      | (with_reducible exact ih0 _ _ _ _ _ _)
      | (with_reducible exact nat_Compare.mono _ _ _)
      | (with_reducible exact nat_trim.mono _ _)
      | (with_reducible exact LeO.refl _)
      | (with_reducible exact LeO.none _)
      | (with_reducible refine LeO.ite ?_ ?_)
      | (with_reducible refine LeO.bind ?_ (fun _ => ?_))
      | exact ih0 _ _ _ _ _ _
      | exact nat_Compare.mono _ _ _
      | exact nat_trim.mono _ _
      | exact LeO.none _
      | refine LeO.ite ?_ ?_
      | refine LeO.bind ?_ (fun _ => ?_)
set_option maxHeartbeats 8000000 in
set_option maxRecDepth 100000 in
theorem nat_Sub.calls (k : Nat) (A0 : Option Addr) (c0 : Nat) (l0 : List Int) (A1 : Option Addr) (c1 : Nat) (l1 : List Int) (r1 : List Int) (r2 : Bool) (w : World) (hr0 : Kd.C (Kd.int .u32) w A0 l0.length l0) (hc0 : l0.length ≤ c0) (hr1 : Kd.C (Kd.int .u32) w A1 l1.length l1) (hc1 : l1.length ≤ c1) (h : nat_Sub.f k l0 l1 = some (r1, r2)) :
    Calls Try.prog 56 #[.slice A0 l0.length c0, .slice A1 l1.length c1] w fun e w' => ∃ v0_ : Value, e = .returned (.tuple #[v0_, .bool r2]) ∧ Kd.R (Kd.int .u32) 96 w' w.heap.size (fun _ => True) v0_ r1 ∧ Below w.heap.size w w' := by
  have HR0 := Aside0.mk hr0
  have HC0 := Aside0.mk hc0
  clear hr0 hc0
  have HR1 := Aside0.mk hr1
  have HC1 := Aside0.mk hc1
  clear hr1 hc1
  have HB := Aside0.mk (Below.refl w.heap.size w)
  have H : ((nat_Compare.f k l0 l1).bind fun t151 => (if t151 < 0 then (some (([] : List Int), false)) else (if 0 ≤ (l0.length : Int) then (if ((l0.length : Int) : Int).toNat ≤ 70368744177664 then ((some (List.replicate ((l0.length : Int) : Int).toNat 0 : List Int)).bind fun y152 => (nat_Sub.l0 k l0 l1 y152 0 (y152.length : Int) 0)) else (none)) else (none)))) = some (r1, r2) := h
  clear h
  replace H := Option.bind_eq_some_iff.mp H
  obtain ⟨t151, A30, H⟩ := H
  replace H : (if t151 < 0 then (some (([] : List Int), false)) else (if 0 ≤ (l0.length : Int) then (if ((l0.length : Int) : Int).toNat ≤ 70368744177664 then ((some (List.replicate ((l0.length : Int) : Int).toNat 0 : List Int)).bind fun y152 => (nat_Sub.l0 k l0 l1 y152 0 (y152.length : Int) 0)) else (none)) else (none))) = some (r1, r2) := H
  have A3 := Aside0.mk A30
  clear A30
  by_cases c4 : t151 < 0
  · rw [if_pos c4] at H
    have c4b0 : decide (t151 < 0) = true := decide_eq_true c4
    clear c4
    simp only [Option.some.injEq, Prod.mk.injEq] at H
    obtain ⟨rfl, rfl⟩ := H
    go_enter Try.func56, Try.ntmps56
    go_wp2_with (first | ((with_reducible refine z16q (f := 45) rfl ?_); refine goesL_ (some 12) rfl rfl Try.func45 (by kernel_rfl) rfl #[.slice A0 l0.length c0, .slice A1 l1.length c1] rfl (by (try simp only [List.map_toArray, List.map_cons, List.map_nil]); first | done | rfl | (simp only [List.length_drop, List.length_take]; rfl)) ?_; (with_reducible refine (nat_Compare.calls k _ _ l0 _ _ l1 t151 _ ?side1 ?side2 ?side3 ?side4 A3.out).mono ?_); (case side1 => repeat (first | exact HR0.out | (with_reducible refine Kd.C_alloc ?_ _) | (with_reducible refine Kd.C_drewN ?_ _) | (with_reducible refine Kd.C_drew ?_))); (case side2 => exact HC0.out); (case side3 => repeat (first | exact HR1.out | (with_reducible refine Kd.C_alloc ?_ _) | (with_reducible refine Kd.C_drewN ?_ _) | (with_reducible refine Kd.C_drew ?_))); (case side4 => exact HC1.out); rintro e w5 ⟨rfl, hb⟩; refine ⟨_, rfl, ?_⟩; have n0_ := Aside0.mk (z11q (by repeat (first | (with_reducible first | exact HB.out | apply z02q | apply z00q | apply z01q) | exact HB.out)) hb); clear HB; have HB := n0_; clear n0_; (try clear hb); (try clear hb2); (try clear hk); (try clear hi)))
    go_ret2
    exact ⟨_, by first | rfl | (simp [z14q, z13q] <;> rfl) | (simp [*, z14q, z13q] <;> rfl), by first | exact Kd.R_nil _ _ _ _ _ | exact Kd.N_nil _ _ _ _ _ | exact Kd.V_nil _ _ _ _ _ | exact Kd.Q_nil _ _ _ _ _ | exact Kd.S_nil _ _ _ _ _, by repeat (first | (with_reducible first | exact HB.out | apply z02q | apply z00q | apply z01q) | exact HB.out)⟩
  · rw [if_neg c4] at H
    have c4b0 : decide (t151 < 0) = false := decide_eq_false c4
    clear c4
    by_cases c6 : 0 ≤ (l0.length : Int)
    · rw [if_pos c6] at H
      have c6b0 := eq_true c6
      have c6b1 : decide (0 ≤ (l0.length : Int)) = true := decide_eq_true c6
      clear c6
      by_cases c7 : ((l0.length : Int) : Int).toNat ≤ 70368744177664
      · rw [if_pos c7] at H
        have c7b0 := eq_true c7
        have c7b1 : decide (((l0.length : Int) : Int).toNat ≤ 70368744177664) = true := decide_eq_true c7
        clear c7
        obtain ⟨y152, hy152⟩ : ∃ y_ : List Int, y_ = (List.replicate ((l0.length : Int) : Int).toNat 0) := ⟨_, rfl⟩
        replace H : (nat_Sub.l0 k l0 l1 y152 0 (y152.length : Int) 0) = some (r1, r2) := by first | (rw [hy152]; with_reducible exact H) | (have H2_ := (Option.bind_some _ _).symm.trans H; rw [hy152]; with_reducible exact H2_) | (have H2_ := (Option.bind_some _ _).symm.trans H; with_reducible exact H2_) | with_reducible exact H | (rw [hy152]; exact H) | exact H
        have Ny152 := Aside0.mk hy152
        clear hy152
        have H' := Aside0.mk H
        clear H
        go_enter Try.func56, Try.ntmps56
        go_wp2_with (first | ((with_reducible refine z16q (f := 45) rfl ?_); refine goesL_ (some 12) rfl rfl Try.func45 (by kernel_rfl) rfl #[.slice A0 l0.length c0, .slice A1 l1.length c1] rfl (by (try simp only [List.map_toArray, List.map_cons, List.map_nil]); first | done | rfl | (simp only [List.length_drop, List.length_take]; rfl)) ?_; (with_reducible refine (nat_Compare.calls k _ _ l0 _ _ l1 t151 _ ?side1 ?side2 ?side3 ?side4 A3.out).mono ?_); (case side1 => repeat (first | exact HR0.out | (with_reducible refine Kd.C_alloc ?_ _) | (with_reducible refine Kd.C_drewN ?_ _) | (with_reducible refine Kd.C_drew ?_))); (case side2 => exact HC0.out); (case side3 => repeat (first | exact HR1.out | (with_reducible refine Kd.C_alloc ?_ _) | (with_reducible refine Kd.C_drewN ?_ _) | (with_reducible refine Kd.C_drew ?_))); (case side4 => exact HC1.out); rintro e w8 ⟨rfl, hb⟩; refine ⟨_, rfl, ?_⟩; have n0_ := Aside0.mk (z11q (by repeat (first | (with_reducible first | exact HB.out | apply z02q | apply z00q | apply z01q) | exact HB.out)) hb); clear HB; have HB := n0_; clear n0_; (try clear hb); (try clear hb2); (try clear hk); (try clear hi)) | ((with_reducible refine z18q (N := 16) rfl ?_); refine Kd.R_make (Kd.int .u32) _ 96 rfl (N := 16) rfl 35 _ _ rfl (l0.length : Int) rfl rfl Try.underlying35 (.int .u32 0) 4 info96 rfl (by decide) (by omega) 0 (ok := fun _ => True) (okp := fun _ => True) rfl (fun _ hk => hk) trivial (of_decide_eq_true (by first | (with_reducible assumption) | assumption)) (Nat.le_trans (Nat.mul_le_mul_right _ (of_decide_eq_true (by first | (with_reducible assumption) | assumption) : (l0.length : Int).toNat ≤ 70368744177664)) (by omega)) (Below.refl _ _) (Nat.le_refl _) ?_; intro v153 w9 ho10 hb hg_ hnew_; clear hg_ hnew_; (first | rw [← Ny152.out] at ho10 | (simp only [Int.reduceToNat] at ho10; rw [← Ny152.out] at ho10)); have n0_ := Aside0.mk (Kd.R_lower ho10 (z10q (by repeat (first | (with_reducible first | exact HB.out | apply z02q | apply z00q | apply z01q) | exact HB.out)))); have n1_ := Aside0.mk (z11q (by repeat (first | (with_reducible first | exact HB.out | apply z02q | apply z00q | apply z01q) | exact HB.out)) hb); clear HB; have HO154 := n0_; have HB := n1_; clear n0_ n1_; clear hb ho10; obtain ⟨Ao11, co11, eo11⟩ := Kd.R_slice HO154.out; subst eo11))
        go_loopg [7, 19] k (fun kq v7 v19 w' => ∃ (x6_1 : List Int) (x7_1 : Int) (x19_1 : Int), v7 = .int .u64 x7_1 ∧ v19 = .int .i64 x19_1 ∧ Aside0 (nat_Sub.l0 kq l0 l1 x6_1 x7_1 (y152.length : Int) x19_1 = some (r1, r2)) ∧ Aside0 (kq ≤ k) ∧ Aside0 (Kd.R (Kd.int .u32) 96 w' w.heap.size (fun _ => True) (.slice Ao11 y152.length co11) x6_1) ∧ Aside0 (Below w.heap.size w w'))
        case atStart => exact ⟨(y152), (0), (0), (by first | rfl | (simp; done) | (simp [*]; done)), (by first | rfl | (simp; done) | (simp [*]; done)), H', ⟨Nat.le_refl _⟩, ⟨by (with_reducible repeat (first | apply Kd.R_alloc | apply Kd.R_drewN | apply Kd.R_drew)); exact HO154.out⟩, ⟨by repeat (first | (with_reducible first | exact HB.out | apply z02q | apply z00q | apply z01q) | exact HB.out)⟩⟩
        case round =>
          clear H'
          try clear c1
          try clear p2
          try clear c4
          try clear c4b0
          try clear c5
          try clear c6
          try clear c6b0
          try clear c6b1
          try clear c7
          try clear c7b0
          try clear c7b1
          obtain ⟨x6_1, x7_1, x19_1, rfl, rfl, HA, HK1, HO_6, HB⟩ := hrel
          have hl6_1 := (Kd.R_reads' HO_6.out).1
          rw [hl6_1] at HO_6
          (try simp only [hl6_1])
          cases gk with
          | zero => exact absurd HA.out (by simp [nat_Sub.l0])
          | succ k1 =>
            have H := HA.out
            clear HA
            simp only [nat_Sub.l0] at H
            by_cases c12 : x19_1 < (y152.length : Int)
            · rw [if_pos c12] at H
              have c12b0 : decide (x19_1 < (y152.length : Int)) = true := decide_eq_true c12
              (try (have c12b0l := c12b0; simp only [hl6_1] at c12b0l))
              clear c12
              replace H := Option.bind_eq_some_iff.mp H
              obtain ⟨t155, A130, H⟩ := H
              replace H : ((nat_at.f l1 x19_1).bind fun t156 => (if 0 ≤ x19_1 then (if x19_1 < (x6_1.length : Int) then (nat_Sub.l0 k1 l0 l1 (x6_1.set (x19_1 : Int).toNat ((IntKind.u64.wrap ((IntKind.u64.wrap (t155 - t156)) - x7_1)) % 4294967296)) ((IntKind.u64.wrap ((IntKind.u64.wrap (t155 - t156)) - x7_1)) / 9223372036854775808) (y152.length : Int) (wrap64 (x19_1 + 1))) else (none)) else (none))) = some (r1, r2) := H
              have A13 := Aside0.mk A130
              clear A130
              replace H := Option.bind_eq_some_iff.mp H
              obtain ⟨t156, A140, H⟩ := H
              replace H : (if 0 ≤ x19_1 then (if x19_1 < (x6_1.length : Int) then (nat_Sub.l0 k1 l0 l1 (x6_1.set (x19_1 : Int).toNat ((IntKind.u64.wrap ((IntKind.u64.wrap (t155 - t156)) - x7_1)) % 4294967296)) ((IntKind.u64.wrap ((IntKind.u64.wrap (t155 - t156)) - x7_1)) / 9223372036854775808) (y152.length : Int) (wrap64 (x19_1 + 1))) else (none)) else (none)) = some (r1, r2) := H
              have A14 := Aside0.mk A140
              clear A140
              by_cases c15 : 0 ≤ x19_1
              · rw [if_pos c15] at H
                have c15b0 : decide (0 ≤ x19_1) = true := decide_eq_true c15
                clear c15
                by_cases c16 : x19_1 < (x6_1.length : Int)
                · rw [if_pos c16] at H
                  have c16b0 : decide (x19_1 < (x6_1.length : Int)) = true := decide_eq_true c16
                  (try (have c16b0l := c16b0; simp only [hl6_1] at c16b0l))
                  clear c16
                  obtain ⟨y157, hy157⟩ : ∃ y_ : List Int, y_ = (x6_1.set (x19_1 : Int).toNat ((IntKind.u64.wrap ((IntKind.u64.wrap (t155 - t156)) - x7_1)) % 4294967296)) := ⟨_, rfl⟩
                  replace H : (nat_Sub.l0 k1 l0 l1 y157 ((IntKind.u64.wrap ((IntKind.u64.wrap (t155 - t156)) - x7_1)) / 9223372036854775808) (y152.length : Int) (wrap64 (x19_1 + 1))) = some (r1, r2) := by first | (rw [hy157]; with_reducible exact H) | (have H2_ := (Option.bind_some _ _).symm.trans H; rw [hy157]; with_reducible exact H2_) | (have H2_ := (Option.bind_some _ _).symm.trans H; with_reducible exact H2_) | with_reducible exact H | (rw [hy157]; exact H) | exact H
                  have Ny157 := Aside0.mk hy157
                  clear hy157
                  have H' := Aside0.mk H
                  clear H
                  go_wp2_with (first | ((with_reducible refine z16q (f := 62) rfl ?_); refine goesL_ (some 24) rfl rfl Try.func62 (by kernel_rfl) rfl #[.slice A0 l0.length c0, .int .i64 x19_1] rfl (by (try simp only [List.map_toArray, List.map_cons, List.map_nil]); first | done | rfl | (simp only [List.length_drop, List.length_take]; rfl)) ?_; (with_reducible refine (nat_at.calls _ _ l0 x19_1 t155 _ ?side1 ?side2 A13.out).mono ?_); (case side1 => repeat (first | exact (Kd.C_below HR0.out HB.out) | (with_reducible refine Kd.C_alloc ?_ _) | (with_reducible refine Kd.C_drewN ?_ _) | (with_reducible refine Kd.C_drew ?_))); (case side2 => exact HC0.out); rintro e w' ⟨rfl, ⟨nd, rfl⟩⟩; refine ⟨_, rfl, ?_⟩; (try (rw [drewN_self wr]; generalize hq_ : World.drewN wr _ = wr; have n0_ : Aside0 (Kd.R (Kd.int .u32) 96 wr w.heap.size (fun _ => True) (.slice Ao11 x6_1.length co11) x6_1) := ⟨by rw [← hq_]; exact (by (with_reducible repeat (first | apply Kd.R_alloc | apply Kd.R_drewN | apply Kd.R_drew)); exact HO_6.out)⟩; have n1_ : Aside0 (Below w.heap.size w wr) := ⟨by rw [← hq_]; exact (by repeat (first | (with_reducible first | exact HB.out | apply z02q | apply z00q | apply z01q) | exact HB.out))⟩; clear HO_6 HB hq_; have HO_6 := n0_; have HB := n1_; clear n0_ n1_))) | ((with_reducible refine z16q (f := 62) rfl ?_); refine goesL_ (some 27) rfl rfl Try.func62 (by kernel_rfl) rfl #[.slice A1 l1.length c1, .int .i64 x19_1] rfl (by (try simp only [List.map_toArray, List.map_cons, List.map_nil]); first | done | rfl | (simp only [List.length_drop, List.length_take]; rfl)) ?_; (with_reducible refine (nat_at.calls _ _ l1 x19_1 t156 _ ?side1 ?side2 A14.out).mono ?_); (case side1 => repeat (first | exact (Kd.C_below HR1.out HB.out) | (with_reducible refine Kd.C_alloc ?_ _) | (with_reducible refine Kd.C_drewN ?_ _) | (with_reducible refine Kd.C_drew ?_))); (case side2 => exact HC1.out); rintro e w' ⟨rfl, ⟨nd, rfl⟩⟩; refine ⟨_, rfl, ?_⟩; (try (rw [drewN_self wr]; generalize hq_ : World.drewN wr _ = wr; have n0_ : Aside0 (Kd.R (Kd.int .u32) 96 wr w.heap.size (fun _ => True) (.slice Ao11 x6_1.length co11) x6_1) := ⟨by rw [← hq_]; exact (by (with_reducible repeat (first | apply Kd.R_alloc | apply Kd.R_drewN | apply Kd.R_drew)); exact HO_6.out)⟩; have n1_ : Aside0 (Below w.heap.size w wr) := ⟨by rw [← hq_]; exact (by repeat (first | (with_reducible first | exact HB.out | apply z02q | apply z00q | apply z01q) | exact HB.out))⟩; clear HO_6 HB hq_; have HO_6 := n0_; have HB := n1_; clear n0_ n1_)); have p17 : 0 ≤ (x19_1 : Int) := of_decide_eq_true (by first | (with_reducible assumption) | assumption); have q17 : (x19_1 : Int) < ((x6_1.length : Int) : Int) := of_decide_eq_true (by first | (with_reducible assumption) | assumption); obtain ⟨go17, co17, eo17, gb17, gl17, cl17, HG17⟩ := Kd.R_form HO_6.out (by omega); (first | cases eo17 | (injection eo17 with ea_ en_ ec_; (first | subst ea_ | (injection ea_ with ea_; subst ea_)); subst ec_; clear en_)); have GB17 := Aside0.mk gb17; have GG17 := Aside0.mk HG17; clear gb17 gl17 HG17; obtain ⟨hx17_0, hf17_0⟩ := Kd.R_celln 0 HO_6.out (x19_1 : Int) p17 q17; replace p17 := eq_true p17; replace q17 := eq_true q17; obtain ⟨hy18_, hz18_⟩ := Kd.R_celln 0 HO_6.out (x19_1 : Int) (of_decide_eq_true (by first | (with_reducible assumption) | assumption)) (of_decide_eq_true (by first | (with_reducible assumption) | assumption)); have HP18 := Kd.R_putg HO_6.out (x19_1 : Int) ((IntKind.u64.wrap ((IntKind.u64.wrap (t155 - t156)) - x7_1)) % 4294967296)) | ((with_reducible refine gate_store (t := 96) (p := 35) rfl ?_); refine store_event (t := 96) (p := 35) (v := ?vo_w19) (w1 := (wr.setCell ⟨go17, (x19_1 : Int).toNat, none⟩ (.int .u32 ((IntKind.u64.wrap ((IntKind.u64.wrap (t155 - t156)) - x7_1)) % 4294967296)))) ?hg ?ho ?hn ?hr ?_; (case ho => rfl); (case hg => rfl); (case hn => rfl); (case hr => first | (go_simp; done) | (go_simp; rfl)); intro w19 hw; have hg : wr.grownBy w19 (some go17) := (by rw [hw]; exact HP18.2); have hp_ : Kd.R (Kd.int .u32) 96 w19 w.heap.size (fun _ => True) (.slice (some ⟨go17, 0, none⟩) x6_1.length co11) y157 := (by rw [hw, Ny157.out]; exact HP18.1); clear HP18; have n0_ := Aside0.mk (hp_); have n1_ := Aside0.mk ((by rw [hw]; exact z03q (HB.out) GB17.out : Below w.heap.size w w19)); clear HO_6; clear HB; have HO_6 := n0_; have HB := n1_; clear n0_ n1_; clear hg hw hp_))
                  (try simp only [← hl6_1])
                  go_roundg k1
                  case measure => have := HK1.out; omega
                  case rel => exact ⟨(y157), ((IntKind.u64.wrap ((IntKind.u64.wrap (t155 - t156)) - x7_1)) / 9223372036854775808), (wrap64 (x19_1 + 1)), (by first | rfl | (simp; done) | (simp [*]; done)), (by first | rfl | (simp; done) | (simp [*]; done)), H', ⟨by have := HK1.out; omega⟩, ⟨by (try simp only [hl6_1]); (with_reducible repeat (first | apply Kd.R_alloc | apply Kd.R_drewN | apply Kd.R_drew)); exact HO_6.out⟩, ⟨by repeat (first | (with_reducible first | exact HB.out | apply z02q | apply z00q | apply z01q) | exact HB.out)⟩⟩
                · rw [if_neg c16] at H
                  exact absurd H (by simp)
              · rw [if_neg c15] at H
                exact absurd H (by simp)
            · rw [if_neg c12] at H
              have c12b0 : decide (x19_1 < (y152.length : Int)) = false := decide_eq_false c12
              (try (have c12b0l := c12b0; simp only [hl6_1] at c12b0l))
              clear c12
              replace H := Option.bind_eq_some_iff.mp H
              obtain ⟨t158, A200, H⟩ := H
              replace H : (some (t158, true)) = some (r1, r2) := H
              have A20 := Aside0.mk A200
              clear A200
              simp only [Option.some.injEq, Prod.mk.injEq] at H
              obtain ⟨rfl, rfl⟩ := H
              go_wp2_with (first | ((with_reducible refine z16q (f := 50) rfl ?_); refine goesL_ (some 40) rfl rfl Try.func50 (by kernel_rfl) rfl #[.slice Ao11 x6_1.length co11] rfl (by (try simp only [List.map_toArray, List.map_cons, List.map_nil]); first | done | rfl | (simp only [List.length_drop, List.length_take]; rfl)) ?_; (with_reducible refine (nat_trim.calls k1 _ _ x6_1 t158 _ ?side1 ?side2 A20.out).mono ?_); (case side1 => repeat (first | exact (Kd.R_reads' HO_6.out).2.2 | (with_reducible refine Kd.C_alloc ?_ _) | (with_reducible refine Kd.C_drewN ?_ _) | (with_reducible refine Kd.C_drew ?_))); (case side2 => exact (Kd.R_reads' HO_6.out).2.1); rintro e w21 ⟨v159, rfl, ho0, hb⟩; refine ⟨_, rfl, ?_⟩; have n0_ := Aside0.mk (Kd.R_elder' (by (with_reducible repeat (first | apply Kd.R_alloc | apply Kd.R_drewN | apply Kd.R_drew)); exact HO_6.out) (Kd.R_base ho0) hb); have n1_ := Aside0.mk (Kd.R_lower (Kd.R_new' ho0 (Kd.R_lt (by (with_reducible repeat (first | apply Kd.R_alloc | apply Kd.R_drewN | apply Kd.R_drew)); exact HO_6.out))) (z10q (by repeat (first | (with_reducible first | exact HB.out | apply z02q | apply z00q | apply z01q) | exact HB.out)))); have n2_ := Aside0.mk (z11q (by repeat (first | (with_reducible first | exact HB.out | apply z02q | apply z00q | apply z01q) | exact HB.out)) hb); clear HO_6; clear HB; have HO_6 := n0_; have HO160 := n1_; have HB := n2_; clear n0_ n1_ n2_; (try clear hb); (try clear hb2); (try clear hk); (try clear hi); (try clear ho0)))
              go_ret2
              exact ⟨_, by first | rfl | (simp [z14q, z13q] <;> rfl) | (simp [*, z14q, z13q] <;> rfl), by (with_reducible repeat (first | apply Kd.R_alloc | apply Kd.R_drewN | apply Kd.R_drew)); exact Kd.R_mono HO160.out (fun _ hk => trivial), by repeat (first | (with_reducible first | exact HB.out | apply z02q | apply z00q | apply z01q) | exact HB.out)⟩
      · rw [if_neg c7] at H
        exact absurd H (by simp)
    · rw [if_neg c6] at H
      exact absurd H (by simp)
end Go.Proofs.Ytgnffmbaecabnaa.M
