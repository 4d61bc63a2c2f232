-- Printed by a program of this session's own (wip/myprint.py), out of the kit's print with functions given by hand. Lean checks it.
import Derived.Test.YtgnffmbaecabnaaM0
namespace Go.Proofs.Ytgnffmbaecabnaa.M
open Go.RowKit Go.Shelf Go.Proofs.YtgnffmbaecabnaaW.PrintWords Go.Proofs.YtgnffmbaecabnaaW.PrintLast Go.Proofs.YtgnffmbaecabnaaW.PrintMore
attribute [local go_sem] z33q z31q max_two min_two z28q z27q z32q z30q   -- for this text's walks alone
set_option linter.unusedVariables false
set_option linter.unusedSimpArgs false
mutual
def offcutlaw05_Few.l0 : Nat → List (S39) → Int → Option (Bool)
  | 0, _, _ => none
  | k + 1, x0, x3 => if x3 < (x0.length : Int) then (offcutlaw05_Few.j1 k x0 x3 (decide (x3 ≤ 8))) else (offcutlaw05_Few.j1 k x0 x3 false)
def offcutlaw05_Few.j1 : Nat → List (S39) → Int → Bool → Option (Bool)
  | 0, _, _, _ => none
  | k + 1, x0, x3, x11 => if x11 = true then (if 0 ≤ x3 then (if x3 < (x0.length : Int) then (if (((rd_T39 x0 x3).f0.f1).length : Int) > 3 then (some false) else (if (((rd_T39 x0 x3).f1).length : Int) > 3 then (some false) else (offcutlaw05_Few.l0 k x0 (wrap64 (x3 + 1))))) else (none)) else (none)) else (some (decide ((x0.length : Int) ≤ 8)))
end
def offcutlaw05_Few.f (k : Nat) (l0 : List (S39)) : Option (Bool) := offcutlaw05_Few.l0 k l0 0
theorem offcutlaw05_Few.mono_l : ∀ k, (∀ y0 y1, LeO (offcutlaw05_Few.l0 k y0 y1) (offcutlaw05_Few.l0 (k + 1) y0 y1)) ∧ (∀ y0 y1 y2, LeO (offcutlaw05_Few.j1 k y0 y1 y2) (offcutlaw05_Few.j1 (k + 1) y0 y1 y2))
  | 0 => ⟨fun _ _ r h => by simp [offcutlaw05_Few.l0] at h, fun _ _ _ r h => by simp [offcutlaw05_Few.j1] at h⟩
  | k + 1 => by
    obtain ⟨ih0, ih1⟩ := offcutlaw05_Few.mono_l k
    refine ⟨?_, ?_⟩
    · intro y0 y1
      unfold offcutlaw05_Few.l0
      repeat' first
      | (with_reducible exact ih0 _ _)
      | (with_reducible exact ih1 _ _ _)
      | (with_reducible exact LeO.refl _)
      | (with_reducible exact LeO.none _)
      | (with_reducible refine LeO.ite ?_ ?_)
      | (with_reducible refine LeO.bind ?_ (fun _ => ?_))
      | exact ih0 _ _
      | exact ih1 _ _ _
      | exact LeO.none _
      | refine LeO.ite ?_ ?_
      | refine LeO.bind ?_ (fun _ => ?_)
    · intro y0 y1 y2
      unfold offcutlaw05_Few.j1
      repeat' first
      | (with_reducible exact ih0 _ _)
      | (with_reducible exact ih1 _ _ _)
      | (with_reducible exact LeO.refl _)
      | (with_reducible exact LeO.none _)
      | (with_reducible refine LeO.ite ?_ ?_)
      | (with_reducible refine LeO.bind ?_ (fun _ => ?_))
      | exact ih0 _ _
      | exact ih1 _ _ _
      | exact LeO.none _
      | refine LeO.ite ?_ ?_
      | refine LeO.bind ?_ (fun _ => ?_)
theorem offcutlaw05_Few.mono : ∀ a0 k, LeO (offcutlaw05_Few.f k a0) (offcutlaw05_Few.f (k + 1) a0) := by
  intro a0 k
  obtain ⟨ih0, ih1⟩ := offcutlaw05_Few.mono_l k
  unfold offcutlaw05_Few.f
  repeat' first
      | (with_reducible exact ih0 _ _)
      | (with_reducible exact ih1 _ _ _)
      | (with_reducible exact LeO.refl _)
      | (with_reducible exact LeO.none _)
      | (with_reducible refine LeO.ite ?_ ?_)
      | (with_reducible refine LeO.bind ?_ (fun _ => ?_))
      | exact ih0 _ _
      | exact ih1 _ _ _
      | exact LeO.none _
      | refine LeO.ite ?_ ?_
      | refine LeO.bind ?_ (fun _ => ?_)
set_option maxHeartbeats 8000000 in
set_option maxRecDepth 100000 in
theorem offcutlaw05_Few.calls (k : Nat) (A0 : Option Addr) (c0 : Nat) (l0 : List (S39)) (r : Bool) (w : World) (hr0 : Kd.C k39 w A0 l0.length l0) (hc0 : l0.length ≤ c0) (h : offcutlaw05_Few.f k l0 = some r) :
    Calls Try.prog 7 #[.slice A0 l0.length c0] w fun e w' => e = .returned (.bool r) ∧ Drawn0 w w' := by
  have HR0 := Aside0.mk hr0
  have HC0 := Aside0.mk hc0
  clear hr0 hc0
  have H : (offcutlaw05_Few.l0 k l0 0) = some r := h
  clear h
  have H' := Aside0.mk H
  clear H
  go_enter Try.func7, Try.ntmps7
  go_wp2
  go_loopg [3] k (fun kq v3 w' => ∃ (x3_1 : Int), v3 = .int .i64 x3_1 ∧ Aside0 (offcutlaw05_Few.l0 kq l0 x3_1 = some r) ∧ Aside0 (kq ≤ k) ∧ Drawn0 w w')
  case atStart => exact ⟨(0), (by first | rfl | (simp; done) | (simp [*]; done)), H', ⟨Nat.le_refl _⟩, by repeat (first | exact Drawn0.refl _ | apply Drawn0.step)⟩
  case round =>
    clear H'
    obtain ⟨x3_1, rfl, HA, HK1, ⟨m1, rfl⟩⟩ := hrel
    cases gk with
    | zero => exact absurd HA.out (by simp [offcutlaw05_Few.l0])
    | succ k1 =>
      have H := HA.out
      clear HA
      simp only [offcutlaw05_Few.l0] at H
      have HC2 := Aside0.mk H
      clear H
      go_upto_region 2 with (fail)
      go_cut [11] (fun v11 wc => ∃ (kq : Nat) (x11_1 : Bool), v11 = .bool x11_1 ∧ Aside0 (offcutlaw05_Few.j1 kq l0 x3_1 x11_1 = some r) ∧ Aside0 (kq ≤ k1) ∧ Drawn0 w wc)
      case first =>
        have H := HC2.out
        clear HC2
        by_cases c3 : x3_1 < (l0.length : Int)
        · rw [if_pos c3] at H
          have c3b0 : decide (x3_1 < (l0.length : Int)) = true := decide_eq_true c3
          clear c3
          (first | rw [c3b0] | (simp only [i64_w, i32_w]; rw [c3b0]) | skip)
          have H' := Aside0.mk H
          clear H
          go_wp2
          go_meet
          case rel => exact ⟨_, (decide (x3_1 ≤ 8)), (by first | rfl | (simp; done) | (simp [*]; done)), H', ⟨by have := HK1.out; first | omega | exact Nat.le_refl _⟩, by repeat (first | exact Drawn0.refl _ | apply Drawn0.step)⟩
        · rw [if_neg c3] at H
          have c3b0 : decide (x3_1 < (l0.length : Int)) = false := decide_eq_false c3
          clear c3
          (first | rw [c3b0] | (simp only [i64_w, i32_w]; rw [c3b0]) | skip)
          have H' := Aside0.mk H
          clear H
          go_wp2
          go_meet
          case rel => exact ⟨_, (false), (by first | rfl | (simp; done) | (simp [*]; done)), H', ⟨by have := HK1.out; first | omega | exact Nat.le_refl _⟩, by repeat (first | exact Drawn0.refl _ | apply Drawn0.step)⟩
      case rest =>
        clear HC2
        try clear p2
        try clear c3
        try clear c3b0
        obtain ⟨kq, x11_1, rfl, HA, HJ1, ⟨mc1, rfl⟩⟩ := hcut
        cases kq with
        | zero => exact absurd HA.out (by simp [offcutlaw05_Few.j1])
        | succ kj1 =>
          have H := HA.out
          clear HA
          simp only [offcutlaw05_Few.j1] at H
          by_cases c4 : x11_1 = true
          · subst c4
            have H1 : (if 0 ≤ x3_1 then (if x3_1 < (l0.length : Int) then (if (((rd_T39 l0 x3_1).f0.f1).length : Int) > 3 then (some false) else (if (((rd_T39 l0 x3_1).f1).length : Int) > 3 then (some false) else (offcutlaw05_Few.l0 kj1 l0 (wrap64 (x3_1 + 1))))) else (none)) else (none)) = some r := by rw [if_pos rfl] at H; exact H
            clear H
            have H := H1
            clear H1
            by_cases c5 : 0 ≤ x3_1
            · rw [if_pos c5] at H
              have c5b0 : decide (0 ≤ x3_1) = true := decide_eq_true c5
              clear c5
              by_cases c6 : x3_1 < (l0.length : Int)
              · rw [if_pos c6] at H
                have c6b0 : decide (x3_1 < (l0.length : Int)) = true := decide_eq_true c6
                clear c6
                by_cases c7 : (((rd_T39 l0 x3_1).f0.f1).length : Int) > 3
                · rw [if_pos c7] at H
                  have c7b0 : decide (3 < (((rd_T39 l0 x3_1).f0.f1).length : Int)) = true := decide_eq_true c7
                  have c7b1 : decide (3 < ((rd_T39 l0 x3_1).f0.f1).length) = true := decide_eq_true (by omega)
                  clear c7
                  obtain rfl := Option.some.inj H
                  have p364 : 0 ≤ (x3_1 : Int) := of_decide_eq_true (by first | (with_reducible assumption) | assumption)
                  have q364 : x3_1 < (l0.length : Int) := of_decide_eq_true (by first | (with_reducible assumption) | assumption)
                  obtain ⟨ad364, A364_1, c364_1, A364_2, c364_2, e364, hx364_0, hx364_1, hx364_2, hl364_1, hi364_1, hl364_2, hi364_2⟩ := at_T39 HR0.out x3_1 p364 q364
                  cases e364
                  have HR364_1 := Aside0.mk hi364_1
                  have HC364_1 := Aside0.mk hl364_1
                  clear hi364_1 hl364_1
                  have HR364_2 := Aside0.mk hi364_2
                  have HC364_2 := Aside0.mk hl364_2
                  clear hi364_2 hl364_2
                  replace p364 := eq_true p364
                  replace q364 := eq_true q364
                  go_wp2
                  go_ret
                  exact ⟨by first | rfl | (simp; done) | (simp [*]; done), by repeat (first | exact Drawn0.refl _ | apply Drawn0.step)⟩
                · rw [if_neg c7] at H
                  have c7b0 : decide (3 < (((rd_T39 l0 x3_1).f0.f1).length : Int)) = false := decide_eq_false c7
                  have c7b1 : decide (3 < ((rd_T39 l0 x3_1).f0.f1).length) = false := decide_eq_false (by omega)
                  clear c7
                  by_cases c8 : (((rd_T39 l0 x3_1).f1).length : Int) > 3
                  · rw [if_pos c8] at H
                    have c8b0 : decide (3 < (((rd_T39 l0 x3_1).f1).length : Int)) = true := decide_eq_true c8
                    have c8b1 : decide (3 < ((rd_T39 l0 x3_1).f1).length) = true := decide_eq_true (by omega)
                    clear c8
                    obtain rfl := Option.some.inj H
                    have p364 : 0 ≤ (x3_1 : Int) := of_decide_eq_true (by first | (with_reducible assumption) | assumption)
                    have q364 : x3_1 < (l0.length : Int) := of_decide_eq_true (by first | (with_reducible assumption) | assumption)
                    obtain ⟨ad364, A364_1, c364_1, A364_2, c364_2, e364, hx364_0, hx364_1, hx364_2, hl364_1, hi364_1, hl364_2, hi364_2⟩ := at_T39 HR0.out x3_1 p364 q364
                    cases e364
                    have HR364_1 := Aside0.mk hi364_1
                    have HC364_1 := Aside0.mk hl364_1
                    clear hi364_1 hl364_1
                    have HR364_2 := Aside0.mk hi364_2
                    have HC364_2 := Aside0.mk hl364_2
                    clear hi364_2 hl364_2
                    replace p364 := eq_true p364
                    replace q364 := eq_true q364
                    have p365 : 0 ≤ (x3_1 : Int) := of_decide_eq_true (by first | (with_reducible assumption) | assumption)
                    have q365 : x3_1 < (l0.length : Int) := of_decide_eq_true (by first | (with_reducible assumption) | assumption)
                    obtain ⟨ad365, A365_1, c365_1, A365_2, c365_2, e365, hx365_0, hx365_1, hx365_2, hl365_1, hi365_1, hl365_2, hi365_2⟩ := at_T39 HR0.out x3_1 p365 q365
                    obtain rfl : ad364 = ad365 := (by injection e365)
                    have HR365_1 := Aside0.mk hi365_1
                    have HC365_1 := Aside0.mk hl365_1
                    clear hi365_1 hl365_1
                    have HR365_2 := Aside0.mk hi365_2
                    have HC365_2 := Aside0.mk hl365_2
                    clear hi365_2 hl365_2
                    replace p365 := eq_true p365
                    replace q365 := eq_true q365
                    have ea_ := Option.some.inj (hx364_1.symm.trans hx365_1)
                    injection ea_ with ea_ en_ ec_
                    subst ea_
                    subst ec_
                    clear en_
                    have ea_ := Option.some.inj (hx364_2.symm.trans hx365_2)
                    injection ea_ with ea_ en_ ec_
                    subst ea_
                    subst ec_
                    clear en_
                    go_wp2
                    go_ret
                    exact ⟨by first | rfl | (simp; done) | (simp [*]; done), by repeat (first | exact Drawn0.refl _ | apply Drawn0.step)⟩
                  · rw [if_neg c8] at H
                    have c8b0 : decide (3 < (((rd_T39 l0 x3_1).f1).length : Int)) = false := decide_eq_false c8
                    have c8b1 : decide (3 < ((rd_T39 l0 x3_1).f1).length) = false := decide_eq_false (by omega)
                    clear c8
                    have H' := Aside0.mk H
                    clear H
                    have p364 : 0 ≤ (x3_1 : Int) := of_decide_eq_true (by first | (with_reducible assumption) | assumption)
                    have q364 : x3_1 < (l0.length : Int) := of_decide_eq_true (by first | (with_reducible assumption) | assumption)
                    obtain ⟨ad364, A364_1, c364_1, A364_2, c364_2, e364, hx364_0, hx364_1, hx364_2, hl364_1, hi364_1, hl364_2, hi364_2⟩ := at_T39 HR0.out x3_1 p364 q364
                    cases e364
                    have HR364_1 := Aside0.mk hi364_1
                    have HC364_1 := Aside0.mk hl364_1
                    clear hi364_1 hl364_1
                    have HR364_2 := Aside0.mk hi364_2
                    have HC364_2 := Aside0.mk hl364_2
                    clear hi364_2 hl364_2
                    replace p364 := eq_true p364
                    replace q364 := eq_true q364
                    have p365 : 0 ≤ (x3_1 : Int) := of_decide_eq_true (by first | (with_reducible assumption) | assumption)
                    have q365 : x3_1 < (l0.length : Int) := of_decide_eq_true (by first | (with_reducible assumption) | assumption)
                    obtain ⟨ad365, A365_1, c365_1, A365_2, c365_2, e365, hx365_0, hx365_1, hx365_2, hl365_1, hi365_1, hl365_2, hi365_2⟩ := at_T39 HR0.out x3_1 p365 q365
                    obtain rfl : ad364 = ad365 := (by injection e365)
                    have HR365_1 := Aside0.mk hi365_1
                    have HC365_1 := Aside0.mk hl365_1
                    clear hi365_1 hl365_1
                    have HR365_2 := Aside0.mk hi365_2
                    have HC365_2 := Aside0.mk hl365_2
                    clear hi365_2 hl365_2
                    replace p365 := eq_true p365
                    replace q365 := eq_true q365
                    have ea_ := Option.some.inj (hx364_1.symm.trans hx365_1)
                    injection ea_ with ea_ en_ ec_
                    subst ea_
                    subst ec_
                    clear en_
                    have ea_ := Option.some.inj (hx364_2.symm.trans hx365_2)
                    injection ea_ with ea_ en_ ec_
                    subst ea_
                    subst ec_
                    clear en_
                    go_wp2
                    go_roundg kj1
                    case measure => have := HK1.out; have := HJ1.out; omega
                    case rel => exact ⟨(wrap64 (x3_1 + 1)), (by first | rfl | (simp; done) | (simp [*]; done)), H', ⟨by have := HK1.out; have := HJ1.out; omega⟩, by repeat (first | exact Drawn0.refl _ | apply Drawn0.step)⟩
              · rw [if_neg c6] at H
                exact absurd H (by simp)
            · rw [if_neg c5] at H
              exact absurd H (by simp)
          · replace c4 := Bool.eq_false_iff.mpr c4
            subst c4
            have H1 : (some (decide ((l0.length : Int) ≤ 8))) = some r := by rw [if_neg (show ¬ (false = true) by decide)] at H; exact H
            clear H
            have H := H1
            clear H1
            obtain rfl := Option.some.inj H
            go_wp2
            go_ret
            exact ⟨by first | rfl | (simp; done) | (simp [*]; done), by repeat (first | exact Drawn0.refl _ | apply Drawn0.step)⟩
mutual
def offcutlaw16_few.l0 : Nat → Int → Int → List (S46) → Option (Bool)
  | 0, _, _, _ => none
  | k + 1, x3, x367000, x367001 => if x3 < (x367001.length : Int) then (offcutlaw16_few.j1 k x3 (decide (x3 ≤ 4)) x367000 x367001) else (offcutlaw16_few.j1 k x3 false x367000 x367001)
def offcutlaw16_few.j1 : Nat → Int → Bool → Int → List (S46) → Option (Bool)
  | 0, _, _, _, _ => none
  | k + 1, x3, x12, x367000, x367001 => if x12 = true then (if 0 ≤ x3 then (if x3 < (x367001.length : Int) then (if ((rd_T46 x367001 x3).f1) > 7 then (some false) else (offcutlaw16_few.l0 k (wrap64 (x3 + 1)) x367000 x367001)) else (none)) else (none)) else (some (decide ((x367001.length : Int) ≤ 4)))
end
def offcutlaw16_few.f (k : Nat) (a0_0 : Int) (l0_1 : List (S46)) : Option (Bool) := offcutlaw16_few.l0 k 0 a0_0 l0_1
theorem offcutlaw16_few.mono_l : ∀ k, (∀ y0 y1 y2, LeO (offcutlaw16_few.l0 k y0 y1 y2) (offcutlaw16_few.l0 (k + 1) y0 y1 y2)) ∧ (∀ y0 y1 y2 y3, LeO (offcutlaw16_few.j1 k y0 y1 y2 y3) (offcutlaw16_few.j1 (k + 1) y0 y1 y2 y3))
  | 0 => ⟨fun _ _ _ r h => by simp [offcutlaw16_few.l0] at h, fun _ _ _ _ r h => by simp [offcutlaw16_few.j1] at h⟩
  | k + 1 => by
    obtain ⟨ih0, ih1⟩ := offcutlaw16_few.mono_l k
    refine ⟨?_, ?_⟩
    · intro y0 y1 y2
      unfold offcutlaw16_few.l0
      repeat' first
      | (with_reducible exact ih0 _ _ _)
      | (with_reducible exact ih1 _ _ _ _)
      | (with_reducible exact LeO.refl _)
      | (with_reducible exact LeO.none _)
      | (with_reducible refine LeO.ite ?_ ?_)
      | (with_reducible refine LeO.bind ?_ (fun _ => ?_))
      | exact ih0 _ _ _
      | exact ih1 _ _ _ _
      | exact LeO.none _
      | refine LeO.ite ?_ ?_
      | refine LeO.bind ?_ (fun _ => ?_)
    · intro y0 y1 y2 y3
      unfold offcutlaw16_few.j1
      repeat' first
      | (with_reducible exact ih0 _ _ _)
      | (with_reducible exact ih1 _ _ _ _)
      | (with_reducible exact LeO.refl _)
      | (with_reducible exact LeO.none _)
      | (with_reducible refine LeO.ite ?_ ?_)
      | (with_reducible refine LeO.bind ?_ (fun _ => ?_))
      | exact ih0 _ _ _
      | exact ih1 _ _ _ _
      | exact LeO.none _
      | refine LeO.ite ?_ ?_
      | refine LeO.bind ?_ (fun _ => ?_)
theorem offcutlaw16_few.mono : ∀ a0 a1 k, LeO (offcutlaw16_few.f k a0 a1) (offcutlaw16_few.f (k + 1) a0 a1) := by
  intro a0 a1 k
  obtain ⟨ih0, ih1⟩ := offcutlaw16_few.mono_l k
  unfold offcutlaw16_few.f
  repeat' first
      | (with_reducible exact ih0 _ _ _)
      | (with_reducible exact ih1 _ _ _ _)
      | (with_reducible exact LeO.refl _)
      | (with_reducible exact LeO.none _)
      | (with_reducible refine LeO.ite ?_ ?_)
      | (with_reducible refine LeO.bind ?_ (fun _ => ?_))
      | exact ih0 _ _ _
      | exact ih1 _ _ _ _
      | exact LeO.none _
      | refine LeO.ite ?_ ?_
      | refine LeO.bind ?_ (fun _ => ?_)
set_option maxHeartbeats 8000000 in
set_option maxRecDepth 100000 in
theorem offcutlaw16_few.calls (k : Nat) (a0_0 : Int) (A0_1 : Option Addr) (c0_1 : Nat) (l0_1 : List (S46)) (r : Bool) (w : World) (hr0_1 : Kd.C k46 w A0_1 l0_1.length l0_1) (hc0_1 : l0_1.length ≤ c0_1) (h : offcutlaw16_few.f k a0_0 l0_1 = some r) :
    Calls Try.prog 6 #[.agg #[.int .i64 a0_0, .slice A0_1 l0_1.length c0_1]] w fun e w' => e = .returned (.bool r) ∧ Below w.heap.size w w' := by
  have hu24 := Try.underlying24
  have HR0_1 := Aside0.mk hr0_1
  have HC0_1 := Aside0.mk hc0_1
  clear hr0_1 hc0_1
  have HB := Aside0.mk (Below.refl w.heap.size w)
  have H : (offcutlaw16_few.l0 k 0 a0_0 l0_1) = some r := h
  clear h
  have H' := Aside0.mk H
  clear H
  go_enter Try.func6, Try.ntmps6
  go_wp2_with (first | ((with_reducible refine z18q (N := 1) rfl ?_); refine z17q ?hg (N := 1) ?hd (cs := #[.int .i64 a0_0, .slice A0_1 l0_1.length c0_1]) (t := 24) ?hr ?_; (case hd => rfl); (case hg => rfl); (case hr => first | (go_simp; done) | (go_simp; rfl)); intro gb366 hg w2 hbox hb; have n0_ := Aside0.mk (z11q (by repeat (first | (with_reducible first | exact HB.out | apply z02q | apply z00q | apply z01q) | exact HB.out)) hb); have n1_ := Aside0.mk (hbox); have n2_ := Aside0.mk ((by rw [hg]; exact (z10q (by repeat (first | (with_reducible first | exact HB.out | apply z02q | apply z00q | apply z01q) | exact HB.out))) : w.heap.size ≤ gb366)); have n3_ := Aside0.mk ((by rw [hg]; exact (z10q (by repeat (first | (with_reducible first | exact HB.out | apply z02q | apply z00q | apply z01q) | exact HB.out))) : w.heap.size ≤ gb366)); clear HB; have HB := n0_; have BK366 := n1_; have GW366 := n2_; have GE366 := n3_; clear n0_ n1_ n2_ n3_; clear hb hbox hg))
  go_loopg [3] k (fun kq v3 w' => ∃ (x3_1 : Int), v3 = .int .i64 x3_1 ∧ Aside0 (offcutlaw16_few.l0 kq x3_1 a0_0 l0_1 = some r) ∧ Aside0 (kq ≤ k) ∧ Aside0 (w'.heap[gb366]? = some (.cells #[.int .i64 a0_0, (.slice A0_1 l0_1.length c0_1)] 24 (0, 0))) ∧ Aside0 (Below w.heap.size w w'))
  case atStart => exact ⟨(0), (by first | rfl | (simp; done) | (simp [*]; done)), H', ⟨Nat.le_refl _⟩, ⟨by (with_reducible repeat (first | refine z06q ?_ _ | refine z07q ?_ | refine z05q ?_ _)); exact BK366.out⟩, ⟨by repeat (first | (with_reducible first | exact HB.out | apply z02q | apply z00q | apply z01q | refine z03q ?_ GE366.out) | exact HB.out)⟩⟩
  case round =>
    clear H'
    try clear p2
    obtain ⟨x3_1, rfl, HA, HK1, BK366, HB⟩ := hrel
    cases gk with
    | zero => exact absurd HA.out (by simp [offcutlaw16_few.l0])
    | succ k1 =>
      have H := HA.out
      clear HA
      simp only [offcutlaw16_few.l0] at H
      have HC3 := Aside0.mk H
      clear H
      go_upto_region 2 with (fail)
      go_cut [12] (fun v12 wc => ∃ (kq : Nat) (x12_2 : Bool), v12 = .bool x12_2 ∧ Aside0 (offcutlaw16_few.j1 kq x3_1 x12_2 a0_0 l0_1 = some r) ∧ Aside0 (kq ≤ k1) ∧ Aside0 (wc.heap[gb366]? = some (.cells #[.int .i64 a0_0, (.slice A0_1 l0_1.length c0_1)] 24 (0, 0))) ∧ Aside0 (Below w.heap.size w wc))
      case first =>
        have H := HC3.out
        clear HC3
        by_cases c4 : x3_1 < (l0_1.length : Int)
        · rw [if_pos c4] at H
          have c4b0 : decide (x3_1 < (l0_1.length : Int)) = true := decide_eq_true c4
          clear c4
          (first | rw [c4b0] | (simp only [i64_w, i32_w]; rw [c4b0]) | skip)
          have H' := Aside0.mk H
          clear H
          have hcz5_0 : wr.cell? ⟨gb366, 0, none⟩ = some (.int .i64 a0_0) := (z04q BK366.out 0).trans rfl
          have hcz5_1 : wr.cell? ⟨gb366, 1, none⟩ = some (.slice A0_1 l0_1.length c0_1) := (z04q BK366.out 1).trans rfl
          have hfz5_0 := z08q BK366.out 0
          have hfz5_1 := z08q BK366.out 1
          go_wp2
          go_meet
          case rel => exact ⟨_, (decide (x3_1 ≤ 4)), (by first | rfl | (simp; done) | (simp [*]; done)), H', ⟨by have := HK1.out; first | omega | exact Nat.le_refl _⟩, ⟨by (with_reducible repeat (first | refine z06q ?_ _ | refine z07q ?_ | refine z05q ?_ _)); exact BK366.out⟩, ⟨by repeat (first | (with_reducible first | exact HB.out | apply z02q | apply z00q | apply z01q | refine z03q ?_ GE366.out) | exact HB.out)⟩⟩
        · rw [if_neg c4] at H
          have c4b0 : decide (x3_1 < (l0_1.length : Int)) = false := decide_eq_false c4
          clear c4
          (first | rw [c4b0] | (simp only [i64_w, i32_w]; rw [c4b0]) | skip)
          have H' := Aside0.mk H
          clear H
          have hcz6_0 : wr.cell? ⟨gb366, 0, none⟩ = some (.int .i64 a0_0) := (z04q BK366.out 0).trans rfl
          have hcz6_1 : wr.cell? ⟨gb366, 1, none⟩ = some (.slice A0_1 l0_1.length c0_1) := (z04q BK366.out 1).trans rfl
          have hfz6_0 := z08q BK366.out 0
          have hfz6_1 := z08q BK366.out 1
          go_wp2
          go_meet
          case rel => exact ⟨_, (false), (by first | rfl | (simp; done) | (simp [*]; done)), H', ⟨by have := HK1.out; first | omega | exact Nat.le_refl _⟩, ⟨by (with_reducible repeat (first | refine z06q ?_ _ | refine z07q ?_ | refine z05q ?_ _)); exact BK366.out⟩, ⟨by repeat (first | (with_reducible first | exact HB.out | apply z02q | apply z00q | apply z01q | refine z03q ?_ GE366.out) | exact HB.out)⟩⟩
      case rest =>
        clear HC3
        try clear p2
        try clear c4
        try clear c4b0
        try clear c6
        try clear hcz5_0
        try clear hcz5_1
        try clear hcz6_0
        try clear hcz6_1
        try clear hfz5_0
        try clear hfz5_1
        try clear hfz6_0
        try clear hfz6_1
        try clear p2
        obtain ⟨kq, x12_2, rfl, HA, HJ2, BK366, HB⟩ := hcut
        cases kq with
        | zero => exact absurd HA.out (by simp [offcutlaw16_few.j1])
        | succ kj2 =>
          have H := HA.out
          clear HA
          simp only [offcutlaw16_few.j1] at H
          by_cases c7 : x12_2 = true
          · subst c7
            have H1 : (if 0 ≤ x3_1 then (if x3_1 < (l0_1.length : Int) then (if ((rd_T46 l0_1 x3_1).f1) > 7 then (some false) else (offcutlaw16_few.l0 kj2 (wrap64 (x3_1 + 1)) a0_0 l0_1)) else (none)) else (none)) = some r := by rw [if_pos rfl] at H; exact H
            clear H
            have H := H1
            clear H1
            by_cases c8 : 0 ≤ x3_1
            · rw [if_pos c8] at H
              have c8b0 : decide (0 ≤ x3_1) = true := decide_eq_true c8
              clear c8
              by_cases c9 : x3_1 < (l0_1.length : Int)
              · rw [if_pos c9] at H
                have c9b0 : decide (x3_1 < (l0_1.length : Int)) = true := decide_eq_true c9
                clear c9
                by_cases c10 : ((rd_T46 l0_1 x3_1).f1) > 7
                · rw [if_pos c10] at H
                  have c10b0 : decide (7 < ((rd_T46 l0_1 x3_1).f1)) = true := decide_eq_true c10
                  clear c10
                  obtain rfl := Option.some.inj H
                  have hcz11_0 : wc.cell? ⟨gb366, 0, none⟩ = some (.int .i64 a0_0) := (z04q BK366.out 0).trans rfl
                  have hcz11_1 : wc.cell? ⟨gb366, 1, none⟩ = some (.slice A0_1 l0_1.length c0_1) := (z04q BK366.out 1).trans rfl
                  have hfz11_0 := z08q BK366.out 0
                  have hfz11_1 := z08q BK366.out 1
                  have p367 : 0 ≤ (x3_1 : Int) := of_decide_eq_true (by first | (with_reducible assumption) | assumption)
                  have q367 : x3_1 < (l0_1.length : Int) := of_decide_eq_true (by first | (with_reducible assumption) | assumption)
                  obtain ⟨ad367, e367, hx367_0, hx367_1⟩ := at_T46 HR0_1.out x3_1 p367 q367
                  cases e367
                  replace hx367_0 := (HB.out.cell (World.block_lt_of_cell? w _ hx367_0)).trans hx367_0
                  replace hx367_1 := (HB.out.cell (World.block_lt_of_cell? w _ hx367_1)).trans hx367_1
                  replace p367 := eq_true p367
                  replace q367 := eq_true q367
                  go_wp2
                  go_ret
                  exact ⟨by first | rfl | (simp [z14q, z13q] <;> rfl) | (simp [*, z14q, z13q] <;> rfl), by repeat (first | (with_reducible first | exact HB.out | apply z02q | apply z00q | apply z01q | refine z03q ?_ GE366.out) | exact HB.out)⟩
                · rw [if_neg c10] at H
                  have c10b0 : decide (7 < ((rd_T46 l0_1 x3_1).f1)) = false := decide_eq_false c10
                  clear c10
                  have H' := Aside0.mk H
                  clear H
                  have hcz12_0 : wc.cell? ⟨gb366, 0, none⟩ = some (.int .i64 a0_0) := (z04q BK366.out 0).trans rfl
                  have hcz12_1 : wc.cell? ⟨gb366, 1, none⟩ = some (.slice A0_1 l0_1.length c0_1) := (z04q BK366.out 1).trans rfl
                  have hfz12_0 := z08q BK366.out 0
                  have hfz12_1 := z08q BK366.out 1
                  have p367 : 0 ≤ (x3_1 : Int) := of_decide_eq_true (by first | (with_reducible assumption) | assumption)
                  have q367 : x3_1 < (l0_1.length : Int) := of_decide_eq_true (by first | (with_reducible assumption) | assumption)
                  obtain ⟨ad367, e367, hx367_0, hx367_1⟩ := at_T46 HR0_1.out x3_1 p367 q367
                  cases e367
                  replace hx367_0 := (HB.out.cell (World.block_lt_of_cell? w _ hx367_0)).trans hx367_0
                  replace hx367_1 := (HB.out.cell (World.block_lt_of_cell? w _ hx367_1)).trans hx367_1
                  replace p367 := eq_true p367
                  replace q367 := eq_true q367
                  go_wp2
                  go_roundg kj2
                  case measure => have := HK1.out; have := HJ2.out; omega
                  case rel => exact ⟨(wrap64 (x3_1 + 1)), (by first | rfl | (simp; done) | (simp [*]; done)), H', ⟨by have := HK1.out; have := HJ2.out; omega⟩, ⟨by (with_reducible repeat (first | refine z06q ?_ _ | refine z07q ?_ | refine z05q ?_ _)); exact BK366.out⟩, ⟨by repeat (first | (with_reducible first | exact HB.out | apply z02q | apply z00q | apply z01q | refine z03q ?_ GE366.out) | exact HB.out)⟩⟩
              · rw [if_neg c9] at H
                exact absurd H (by simp)
            · rw [if_neg c8] at H
              exact absurd H (by simp)
          · replace c7 := Bool.eq_false_iff.mpr c7
            subst c7
            have H1 : (some (decide ((l0_1.length : Int) ≤ 4))) = some r := by rw [if_neg (show ¬ (false = true) by decide)] at H; exact H
            clear H
            have H := H1
            clear H1
            obtain rfl := Option.some.inj H
            have hcz13_0 : wc.cell? ⟨gb366, 0, none⟩ = some (.int .i64 a0_0) := (z04q BK366.out 0).trans rfl
            have hcz13_1 : wc.cell? ⟨gb366, 1, none⟩ = some (.slice A0_1 l0_1.length c0_1) := (z04q BK366.out 1).trans rfl
            have hfz13_0 := z08q BK366.out 0
            have hfz13_1 := z08q BK366.out 1
            go_wp2
            go_ret
            exact ⟨by first | rfl | (simp [z14q, z13q] <;> rfl) | (simp [*, z14q, z13q] <;> rfl), by repeat (first | (with_reducible first | exact HB.out | apply z02q | apply z00q | apply z01q | refine z03q ?_ GE366.out) | exact HB.out)⟩
end Go.Proofs.Ytgnffmbaecabnaa.M
