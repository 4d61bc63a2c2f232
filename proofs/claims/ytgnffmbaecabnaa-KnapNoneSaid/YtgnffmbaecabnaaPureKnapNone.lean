/- No choice that fits is worth more than what knap.Best tells (law KnapNone), of the walk's own functions, in plain Lean. Condition: the worths' words are of 32 bits. -/
import Derived.Test.YtgnffmbaecabnaaM14
namespace Go.Proofs.Ytgnffmbaecabnaa.Pure
open Go.RowKit Go.Proofs.Ytgnffmbaecabnaa.M Go.Proofs.YtgnffmbaecabnaaW.PrintWords Go.Proofs.YtgnffmbaecabnaaW.PrintLast
set_option maxRecDepth 100000
set_option linter.unusedVariables false
theorem w64_succ {i : Nat} (h : i < 1000000) : wrap64 ((i : Int) + 1) = ((i + 1 : Nat) : Int) := by rw [z24q (by omega) (by omega)]; omega
theorem few16_loop (a : Int) (l : List S46) (d : Nat) : ∀ i, i + d = 5 → (∀ j, j < i → j < l.length → (rd_T46 l (j : Int)).f1 ≤ 7) →
    ∃ b, Ev (fun k => offcutlaw16_few.l0 k (i : Int) a l) b ∧ (b = true → l.length ≤ 4 ∧ ∀ j : Nat, j < l.length → (rd_T46 l (j : Int)).f1 ≤ 7) := by
  induction d with
  | zero =>
    intro i hi hj
    refine ⟨decide ((l.length : Int) ≤ 4), Ev.step (f := fun k => offcutlaw16_few.j1 k (i : Int) false a l) (fun k => ?_) (Ev.step (f := fun _ => some (decide ((l.length : Int) ≤ 4))) (fun k => ?_) (Ev.now _)), fun hb => ?_⟩
    · simp only [offcutlaw16_few.l0]
      rw [decide_eq_false (show ¬ ((i : Int) ≤ 4) by omega)]
      split <;> rfl
    · simp only [offcutlaw16_few.j1]
      rw [if_neg (by decide)]
    · have h := of_decide_eq_true hb
      exact ⟨by omega, fun j hl => hj j (by omega) hl⟩
  | succ d ih =>
    intro i hi hj
    by_cases h : i < l.length
    · have hI : (i : Int) < (l.length : Int) := by omega
      by_cases h7 : (rd_T46 l (i : Int)).f1 > 7
      · refine ⟨false, Ev.step (f := fun k => offcutlaw16_few.j1 k (i : Int) true a l) (fun k => ?_) (Ev.step (f := fun _ => some false) (fun k => ?_) (Ev.now _)), fun hb => by cases hb⟩
        · simp only [offcutlaw16_few.l0]
          rw [if_pos hI, decide_eq_true (show (i : Int) ≤ 4 by omega)]
        · simp only [offcutlaw16_few.j1]
          rw [if_pos trivial, if_pos (by omega), if_pos hI, if_pos h7]
      · obtain ⟨b, hb, hb'⟩ := ih (i + 1) (by omega) (fun j hj1 hjl => by
          rcases Nat.lt_succ_iff_lt_or_eq.1 hj1 with h1 | rfl
          · exact hj j h1 hjl
          · omega)
        refine ⟨b, Ev.step (f := fun k => offcutlaw16_few.j1 k (i : Int) true a l) (fun k => ?_) (Ev.step (f := fun k => offcutlaw16_few.l0 k ((i + 1 : Nat) : Int) a l) (fun k => ?_) hb), hb'⟩
        · simp only [offcutlaw16_few.l0]
          rw [if_pos hI, decide_eq_true (show (i : Int) ≤ 4 by omega)]
        · simp only [offcutlaw16_few.j1]
          rw [if_pos trivial, if_pos (by omega), if_pos hI, if_neg h7, w64_succ (by omega)]
    · refine ⟨decide ((l.length : Int) ≤ 4), Ev.step (f := fun k => offcutlaw16_few.j1 k (i : Int) false a l) (fun k => ?_) (Ev.step (f := fun _ => some (decide ((l.length : Int) ≤ 4))) (fun k => ?_) (Ev.now _)), fun hb => ?_⟩
      · simp only [offcutlaw16_few.l0]
        rw [if_neg (by omega)]
      · simp only [offcutlaw16_few.j1]
        rw [if_neg (by decide)]
      · have h := of_decide_eq_true hb
        exact ⟨by omega, fun j hl => hj j (by omega) hl⟩
theorem few16 (a : Int) (l : List S46) : ∃ b, Ev (fun k => offcutlaw16_few.f k a l) b ∧ (b = true → l.length ≤ 4 ∧ ∀ j : Nat, j < l.length → (rd_T46 l (j : Int)).f1 ≤ 7) :=
  few16_loop a l 5 0 rfl (fun j h => absurd h (Nat.not_lt_zero _))
theorem few05_loop (l : List S39) (d : Nat) : ∀ i, i + d = 9 → (∀ j, j < i → j < l.length → (rd_T39 l (j : Int)).f0.f1.length ≤ 3 ∧ (rd_T39 l (j : Int)).f1.length ≤ 3) →
    ∃ b, Ev (fun k => offcutlaw05_Few.l0 k l (i : Int)) b ∧ (b = true → l.length ≤ 8 ∧ ∀ j : Nat, j < l.length → (rd_T39 l (j : Int)).f0.f1.length ≤ 3 ∧ (rd_T39 l (j : Int)).f1.length ≤ 3) := by
  induction d with
  | zero =>
    intro i hi hj
    refine ⟨decide ((l.length : Int) ≤ 8), Ev.step (f := fun k => offcutlaw05_Few.j1 k l (i : Int) false) (fun k => ?_) (Ev.step (f := fun _ => some (decide ((l.length : Int) ≤ 8))) (fun k => ?_) (Ev.now _)), fun hb => ?_⟩
    · simp only [offcutlaw05_Few.l0]
      rw [decide_eq_false (show ¬ ((i : Int) ≤ 8) by omega)]
      split <;> rfl
    · simp only [offcutlaw05_Few.j1]
      rw [if_neg (by decide)]
    · have h := of_decide_eq_true hb
      exact ⟨by omega, fun j hl => hj j (by omega) hl⟩
  | succ d ih =>
    intro i hi hj
    by_cases h : i < l.length
    · have hI : (i : Int) < (l.length : Int) := by omega
      have e0 : ∀ k, offcutlaw05_Few.l0 (k + 1) l (i : Int) = offcutlaw05_Few.j1 k l (i : Int) true := fun k => by
        simp only [offcutlaw05_Few.l0]
        rw [if_pos hI, decide_eq_true (show (i : Int) ≤ 8 by omega)]
      by_cases h3 : ((rd_T39 l (i : Int)).f0.f1.length : Int) > 3
      · refine ⟨false, Ev.step (f := fun k => offcutlaw05_Few.j1 k l (i : Int) true) e0 (Ev.step (f := fun _ => some false) (fun k => ?_) (Ev.now _)), fun hb => by cases hb⟩
        simp only [offcutlaw05_Few.j1]
        rw [if_pos trivial, if_pos (by omega), if_pos hI, if_pos h3]
      by_cases h4 : ((rd_T39 l (i : Int)).f1.length : Int) > 3
      · refine ⟨false, Ev.step (f := fun k => offcutlaw05_Few.j1 k l (i : Int) true) e0 (Ev.step (f := fun _ => some false) (fun k => ?_) (Ev.now _)), fun hb => by cases hb⟩
        simp only [offcutlaw05_Few.j1]
        rw [if_pos trivial, if_pos (by omega), if_pos hI, if_neg h3, if_pos h4]
      · obtain ⟨b, hb, hb'⟩ := ih (i + 1) (by omega) (fun j hj1 hjl => by
          rcases Nat.lt_succ_iff_lt_or_eq.1 hj1 with h1 | rfl
          · exact hj j h1 hjl
          · omega)
        refine ⟨b, Ev.step (f := fun k => offcutlaw05_Few.j1 k l (i : Int) true) e0 (Ev.step (f := fun k => offcutlaw05_Few.l0 k l ((i + 1 : Nat) : Int)) (fun k => ?_) hb), hb'⟩
        simp only [offcutlaw05_Few.j1]
        rw [if_pos trivial, if_pos (by omega), if_pos hI, if_neg h3, if_neg h4, w64_succ (by omega)]
    · refine ⟨decide ((l.length : Int) ≤ 8), Ev.step (f := fun k => offcutlaw05_Few.j1 k l (i : Int) false) (fun k => ?_) (Ev.step (f := fun _ => some (decide ((l.length : Int) ≤ 8))) (fun k => ?_) (Ev.now _)), fun hb => ?_⟩
      · simp only [offcutlaw05_Few.l0]
        rw [if_neg (by omega)]
      · simp only [offcutlaw05_Few.j1]
        rw [if_neg (by decide)]
      · have h := of_decide_eq_true hb
        exact ⟨by omega, fun j hl => hj j (by omega) hl⟩
theorem few05 (l : List S39) : ∃ b, Ev (fun k => offcutlaw05_Few.f k l) b ∧ (b = true → l.length ≤ 8 ∧ ∀ j : Nat, j < l.length → (rd_T39 l (j : Int)).f0.f1.length ≤ 3 ∧ (rd_T39 l (j : Int)).f1.length ≤ 3) :=
  few05_loop l 9 0 rfl (fun j h => absurd h (Nat.not_lt_zero _))
def tkOf (l : List Int) (j : Nat) : Nat := (rd l (j : Int)).toNat
theorem allV_succ (v : Nat → Rat) (T : Nat → Nat) (ks : List Nat) (k : Nat) : allV v T (ks ++ [k]) = allV v T ks + v k * ((T k : Nat) : Rat) := by
  induction ks with
  | nil => simp only [List.nil_append, allV]; grind
  | cons x ks ih => simp only [List.cons_append, allV, ih]; grind
theorem allW_succ (w : Nat → Nat) (T : Nat → Nat) (ks : List Nat) (k : Nat) : allW w T (ks ++ [k]) = allW w T ks + T k * w k := by
  induction ks with
  | nil => simp [allW]
  | cons x ks ih => simp only [List.cons_append, allW, ih]; omega
theorem item_at {l : List S46} (h : l.all itemB = true) {i : Nat} (hi : i < l.length) : itemB (rd_T46 l (i : Int)) = true := by
  have e : rd_T46 l (i : Int) = l[i] := by
    unfold rd_T46
    rw [Int.toNat_natCast, List.getD_eq_getElem?_getD, List.getElem?_eq_getElem hi]
    rfl
  rw [e]
  exact List.all_eq_true.1 h _ (List.getElem_mem hi)
theorem wide_loop (a : Int) (l : List S46) (l2 : List Int) (hr : l.all itemB = true) (h2 : l2.length = l.length) (h60 : l.length ≤ 60) (d : Nat) : ∀ i, i + d = l.length → (∀ j, j < i → 0 ≤ rd l2 (j : Int) ∧ rd l2 (j : Int) ≤ (rd_T46 l (j : Int)).f1) → allW (wdOf l) (tkOf l2) (List.range i) ≤ i * 1073741824 →
    ∃ x b, Ev (fun k => knap_wide.l0 k l2 ((allW (wdOf l) (tkOf l2) (List.range i) : Nat) : Int) l (l.length : Int) (i : Int) a l) (x, b) ∧ (b = true → (∀ j, j < l.length → 0 ≤ rd l2 (j : Int) ∧ rd l2 (j : Int) ≤ (rd_T46 l (j : Int)).f1) ∧ ((allW (wdOf l) (tkOf l2) (List.range l.length) : Nat) : Int) ≤ a) := by
  induction d with
  | zero =>
    intro i hi hj hu
    obtain rfl : i = l.length := by omega
    refine ⟨_, _, Ev.step (f := fun _ => some (((allW (wdOf l) (tkOf l2) (List.range l.length) : Nat) : Int), decide (((allW (wdOf l) (tkOf l2) (List.range l.length) : Nat) : Int) ≤ a))) (fun k => ?_) (Ev.now _), fun hb => ⟨hj, of_decide_eq_true hb⟩⟩
    simp only [knap_wide.l0]
    rw [if_neg (by omega)]
  | succ d ih =>
    intro i hi hj hu
    have hI : (i : Int) < (l.length : Int) := by omega
    have hI2 : (i : Int) < (l2.length : Int) := by omega
    have hit := item_at hr (show i < l.length by omega)
    simp only [itemB, decide_eq_true_eq] at hit
    by_cases h0 : rd l2 (i : Int) < 0
    · refine ⟨0, false, Ev.step (f := fun _ => some (0, false)) (fun k => ?_) (Ev.now _), fun hb => by cases hb⟩
      simp only [knap_wide.l0]
      rw [if_pos hI, if_pos (by omega), if_pos hI, if_pos hI2, if_pos h0]
    by_cases h1 : rd l2 (i : Int) > (rd_T46 l (i : Int)).f1
    · refine ⟨0, false, Ev.step (f := fun _ => some (0, false)) (fun k => ?_) (Ev.now _), fun hb => by cases hb⟩
      simp only [knap_wide.l0]
      rw [if_pos hI, if_pos (by omega), if_pos hI, if_pos hI2, if_neg h0, if_pos h1]
    · have e1 : rd l2 (i : Int) = ((tkOf l2 i : Nat) : Int) := by unfold tkOf; omega
      have e2 : (rd_T46 l (i : Int)).f0 = ((wdOf l i : Nat) : Int) := by unfold wdOf; omega
      have hm : tkOf l2 i * wdOf l i ≤ 1024 * 1048576 := Nat.mul_le_mul (by omega) (by omega)
      have es : allW (wdOf l) (tkOf l2) (List.range (i + 1)) = allW (wdOf l) (tkOf l2) (List.range i) + tkOf l2 i * wdOf l i := by rw [List.range_succ, allW_succ]
      obtain ⟨x, b, hb, hb'⟩ := ih (i + 1) (by omega) (fun j hj1 => by
        rcases Nat.lt_succ_iff_lt_or_eq.1 hj1 with h2 | rfl
        · exact hj j h2
        · exact ⟨by omega, by omega⟩) (by rw [es, Nat.succ_mul]; omega)
      refine ⟨x, b, Ev.step (f := fun k => knap_wide.l0 k l2 ((allW (wdOf l) (tkOf l2) (List.range (i + 1)) : Nat) : Int) l (l.length : Int) ((i + 1 : Nat) : Int) a l) (fun k => ?_) hb, hb'⟩
      simp only [knap_wide.l0]
      rw [if_pos hI, if_pos (by omega), if_pos hI, if_pos hI2, if_neg h0, if_neg h1, w64_succ (by omega), e1, e2, ← Int.natCast_mul, z24q (x := ((tkOf l2 i * wdOf l i : Nat) : Int)) (by omega) (by omega), ← Int.natCast_add, ← es]
      have hx : allW (wdOf l) (tkOf l2) (List.range (i + 1)) ≤ 60 * 1073741824 + 1073741824 := by
        rw [es]
        have : i * 1073741824 ≤ 60 * 1073741824 := Nat.mul_le_mul_right _ (by omega)
        omega
      rw [z24q (by omega) (by omega)]
theorem fits_ev (a : Int) (l : List S46) (l2 : List Int) : ∃ b, Ev (fun k => knap_Fits.f k a l l2) b ∧ (b = true → rightB a l = true ∧ l2.length = l.length ∧ (∀ j, j < l.length → 0 ≤ rd l2 (j : Int) ∧ rd l2 (j : Int) ≤ (rd_T46 l (j : Int)).f1) ∧ ((allW (wdOf l) (tkOf l2) (List.range l.length) : Nat) : Int) ≤ a) := by
  have out : ∀ k, knap_wide.j0 (k + 1) l2 true a l = some (0, false) := fun k => by simp only [knap_wide.j0, if_true]
  by_cases hr : rightB a l = true
  · by_cases hl : l2.length = l.length
    · obtain ⟨hr1, hr2⟩ : l.length ≤ 60 ∧ l.all itemB = true := by
        unfold rightB at hr
        rw [Bool.and_eq_true, Bool.and_eq_true] at hr
        exact ⟨of_decide_eq_true hr.1.2, hr.2⟩
      obtain ⟨x, b, hb, hb'⟩ := wide_loop a l l2 hr2 hl hr1 l.length 0 (by omega) (fun j h => absurd h (Nat.not_lt_zero _)) (by simp [allW])
      refine ⟨b, ?_, fun h => ⟨hr, hl, hb' h⟩⟩
      unfold knap_Fits.f knap_wide.f
      have e : ((l2.length : Int) != (l.length : Int)) = false := by rw [hl]; simp
      simp only [right_f, hr, Option.bind_some, if_true, e]
      refine Ev.bind (a := (x, b)) (Ev.step (f := fun k => knap_wide.l0 k l2 ((allW (wdOf l) (tkOf l2) (List.range 0) : Nat) : Int) l (l.length : Int) ((0 : Nat) : Int) a l) (fun k => ?_) hb) (Ev.now _)
      simp only [knap_wide.j0]
      rfl
    · refine ⟨false, ?_, fun h => by cases h⟩
      unfold knap_Fits.f knap_wide.f
      have e : ((l2.length : Int) != (l.length : Int)) = true := by simp; omega
      simp only [right_f, hr, Option.bind_some, if_true, e]
      exact Ev.bind (a := ((0 : Int), false)) (Ev.step (f := fun _ => some (0, false)) out (Ev.now _)) (Ev.now _)
  · refine ⟨false, ?_, fun h => by cases h⟩
    rw [Bool.not_eq_true] at hr
    unfold knap_Fits.f knap_wide.f
    simp only [right_f, hr, Option.bind_some, Bool.false_eq_true, if_false]
    exact Ev.bind (a := ((0 : Int), false)) (Ev.step (f := fun _ => some (0, false)) out (Ev.now _)) (Ev.now _)
theorem sq_mul (x y : Rat) : sq (x * y) ≤ sq x + sq y := by
  have e : x * y = mkRat (x.num * y.num) (x.den * y.den) := by
    have := Rat.mkRat_mul_mkRat x.num y.num x.den y.den
    rw [Rat.mkRat_self, Rat.mkRat_self] at this
    exact this
  rw [e]
  obtain ⟨a1, a2⟩ := sq_lt x
  obtain ⟨b1, b2⟩ := sq_lt y
  refine sq_mkRat (Nat.mul_ne_zero x.den_nz y.den_nz) ?_ ?_
  · rw [Int.natAbs_mul, Nat.pow_add]; exact Nat.mul_lt_mul'' a1 b1
  · rw [Nat.pow_add]; exact Nat.mul_lt_mul'' a2 b2
theorem rows_le (q : Rat) : (rQ q).2.1.length ≤ sq q ∧ (rQ q).2.2.length ≤ sq q := ⟨Nat.le_max_left _ _, Nat.le_max_right _ _⟩
def wsum (l1 : List S39) (l2 : List Int) (i : Nat) : Rat := allV (vOf l1) (tkOf l2) (List.range i)
theorem wsum_succ (l1 : List S39) (l2 : List Int) (i : Nat) : wsum l1 l2 (i + 1) = wsum l1 l2 i + vOf l1 i * ((tkOf l2 i : Nat) : Rat) := by
  unfold wsum
  rw [List.range_succ, allV_succ]
theorem natInt_rat (n : Nat) : (((n : Nat) : Int) : Rat) = ((n : Nat) : Rat) := by first | rfl | exact Rat.intCast_natCast n | norm_cast | grind
theorem wsum_sq {l1 : List S39} {l2 : List Int} (hg : l1.all goodS = true) (hT : ∀ j, j < l1.length → tkOf l2 j ≤ 1024) : ∀ i, i ≤ l1.length → sq (wsum l1 l2 i) ≤ 8 * i + 1
  | 0, _ => (by decide : sq 0 ≤ 1)
  | i + 1, h => by
    have h1 := wsum_sq hg hT i (by omega)
    have h2 := sq_add (wsum l1 l2 i) (vOf l1 i * ((tkOf l2 i : Nat) : Rat))
    have h3 := sq_mul (vOf l1 i) ((tkOf l2 i : Nat) : Rat)
    have h4 : sq (vOf l1 i) ≤ 3 := goodS_sq (good_at hg (by omega))
    have h5 := hT i (by omega)
    have h6 : sq ((tkOf l2 i : Nat) : Rat) ≤ 2 := by
      rw [← natInt_rat]
      exact sq_int _ (by rw [Int.natAbs_natCast]; omega)
    rw [wsum_succ]
    omega
theorem worth_loop {l1 : List S39} {l2 : List Int} (hg : l1.all goodS = true) (hl : l2.length = l1.length) (h60 : l1.length ≤ 60) (hT : ∀ j, j < l1.length → 0 ≤ rd l2 (j : Int) ∧ tkOf l2 j ≤ 1024) (d : Nat) : ∀ i, i + d = l1.length →
    Ev (fun k => knap_Worth.l0 k l1 l2 (l1.length : Int) (i : Int) (rQ (wsum l1 l2 i)).1 (rQ (wsum l1 l2 i)).2.1 (rQ (wsum l1 l2 i)).2.2) (rQ (wsum l1 l2 l1.length)) := by
  induction d with
  | zero =>
    intro i hi
    obtain rfl : i = l1.length := by omega
    refine Ev.step (f := fun _ => some (rQ (wsum l1 l2 l1.length))) (fun k => ?_) (Ev.now _)
    simp only [knap_Worth.l0]
    rw [if_neg (by omega)]
  | succ d ih =>
    intro i hi
    have hI : (i : Int) < (l1.length : Int) := by omega
    have hI2 : (i : Int) < (l2.length : Int) := by omega
    obtain ⟨ht0, ht1⟩ := hT i (by omega)
    have e1 : rd l2 (i : Int) = ((tkOf l2 i : Nat) : Int) := by unfold tkOf; omega
    have hgi := good_at hg (show i < l1.length by omega)
    obtain ⟨hRW, hn3, hd3⟩ := goodS_RW hgi
    have hsT : sq ((tkOf l2 i : Nat) : Rat) ≤ 2 := by
      rw [← natInt_rat]
      exact sq_int _ (by rw [Int.natAbs_natCast]; omega)
    have hsM := sq_mul (vOf l1 i) ((tkOf l2 i : Nat) : Rat)
    have hsV : sq (vOf l1 i) ≤ 3 := goodS_sq hgi
    have hsW := wsum_sq hg (fun j hj => (hT j hj).2) i (by omega)
    have h1 : Ev (fun k => rat_Int.f k (rd l2 (i : Int))) (rQ ((tkOf l2 i : Nat) : Rat)) := by
      have := rInt_ev (rd l2 (i : Int)) (by omega) (by omega)
      rw [e1]
      rwa [e1, natInt_rat] at this
    have h2 : Ev (fun k => rat_Mul.f k (rd_T39 l1 (i : Int)).f0.f0 (rd_T39 l1 (i : Int)).f0.f1 (rd_T39 l1 (i : Int)).f1 (rQ ((tkOf l2 i : Nat) : Rat)).1 (rQ ((tkOf l2 i : Nat) : Rat)).2.1 (rQ ((tkOf l2 i : Nat) : Rat)).2.2) (rQ (vOf l1 i * ((tkOf l2 i : Nat) : Rat))) := by
      have hr := rows_le ((tkOf l2 i : Nat) : Rat)
      have := rMul_ev (m := (rd_T39 l1 (i : Int)).f0.f0) (m' := (rQ ((tkOf l2 i : Nat) : Rat)).1) hRW (RW_rQ (q := ((tkOf l2 i : Nat) : Rat)) (by omega)) (by omega) (by omega)
      rwa [RV_rQ] at this
    have h3 : Ev (fun k => rat_Add.f k (rQ (wsum l1 l2 i)).1 (rQ (wsum l1 l2 i)).2.1 (rQ (wsum l1 l2 i)).2.2 (rQ (vOf l1 i * ((tkOf l2 i : Nat) : Rat))).1 (rQ (vOf l1 i * ((tkOf l2 i : Nat) : Rat))).2.1 (rQ (vOf l1 i * ((tkOf l2 i : Nat) : Rat))).2.2) (rQ (wsum l1 l2 (i + 1))) := by
      have hr := rows_le (wsum l1 l2 i)
      have hr' := rows_le (vOf l1 i * ((tkOf l2 i : Nat) : Rat))
      have := rAdd_ev (m := (rQ (wsum l1 l2 i)).1) (m' := (rQ (vOf l1 i * ((tkOf l2 i : Nat) : Rat))).1) (RW_rQ (q := wsum l1 l2 i) (by omega)) (RW_rQ (q := vOf l1 i * ((tkOf l2 i : Nat) : Rat)) (by omega)) (by omega)
      rwa [RV_rQ, RV_rQ, ← wsum_succ] at this
    refine Ev.step (f := fun k => (rat_Int.f k (rd l2 (i : Int))).bind fun bt379 => ((rat_Mul.f k ((rd_T39 l1 (i : Int)).f0.f0) ((rd_T39 l1 (i : Int)).f0.f1) ((rd_T39 l1 (i : Int)).f1) bt379.1 bt379.2.1 bt379.2.2).bind fun bt386 => ((rat_Add.f k (rQ (wsum l1 l2 i)).1 (rQ (wsum l1 l2 i)).2.1 (rQ (wsum l1 l2 i)).2.2 bt386.1 bt386.2.1 bt386.2.2).bind fun bt393 => (knap_Worth.l0 k l1 l2 (l1.length : Int) ((i + 1 : Nat) : Int) bt393.1 bt393.2.1 bt393.2.2)))) (fun k => ?_) (Ev.bind h1 (Ev.bind h2 (Ev.bind h3 (ih (i + 1) (by omega)))))
    simp only [knap_Worth.l0]
    rw [if_pos hI, if_pos (by omega), if_pos hI, if_pos hI2, w64_succ (by omega)]
theorem worth_ev {l1 : List S39} {l2 : List Int} (hg : l1.all goodS = true) (hl : l2.length = l1.length) (h60 : l1.length ≤ 60) (hT : ∀ j, j < l1.length → 0 ≤ rd l2 (j : Int) ∧ tkOf l2 j ≤ 1024) : Ev (fun k => knap_Worth.f k l1 l2) (rQ (wsum l1 l2 l1.length)) := by
  unfold knap_Worth.f
  have h0 : Ev (fun k => rat_Int.f k 0) (rQ (wsum l1 l2 0)) := rInt_ev 0 (by omega) (by omega)
  have hm : mn (l1.length : Int) (l2.length : Int) = (l1.length : Int) := by unfold mn; rw [hl]; split <;> rfl
  rw [hm]
  exact Ev.bind h0 (worth_loop hg hl h60 hT l1.length 0 (by omega))
theorem cmp_ge {x y : Rat} (h : y ≤ x) : cmpQ x y ≥ 0 := by
  unfold cmpQ
  rw [if_neg (Rat.not_lt.2 h)]
  split <;> decide
theorem pieces_le {l : List S46} {l1 : List S39} (hn : ∀ j : Nat, j < l.length → (rd_T46 l (j : Int)).f1 ≤ 7) (h4 : l.length ≤ 4) : (piecesOf l l1).length ≤ 28 := by
  have h : ∀ i, i ≤ l.length → (ksPick (vOf l1) (needN l) (List.range i)).length ≤ 7 * i := by
    intro i
    induction i with
    | zero => intro _; exact Nat.le_refl _
    | succ i ih =>
      intro hi
      have h1 := ih (by omega)
      have h2 := hn i (by omega)
      rw [pickB_eq, pickB_succ, ← pickB_eq, List.length_append]
      have h3 : (if decide (0 < vOf l1 i) = true then List.replicate (needN l i) i else []).length ≤ 7 := by
        split
        · rw [List.length_replicate]; unfold needN; omega
        · exact Nat.zero_le _
      omega
  have := h l.length (Nat.le_refl _)
  unfold piecesOf
  omega
theorem sumN_le {l : List S46} (hn : ∀ j : Nat, j < l.length → (rd_T46 l (j : Int)).f1 ≤ 7) : sumN l ≤ 7 * l.length := by
  induction l with
  | nil => exact Nat.le_refl _
  | cons x l ih =>
    have h1 := ih (fun j hj => hn (j + 1) (by simp only [List.length_cons]; omega))
    have h2 : x.f1 ≤ 7 := hn 0 (by simp)
    simp only [sumN, List.length_cons]
    omega
theorem W32_wf {l : List Int} (h : ∀ n ∈ l, (Lit.int .u32 n).wf = true) : W32 l := fun x hx => by
  have := h x hx
  have h1 : IntKind.u32.min = 0 := rfl
  have h2 : IntKind.u32.max = 4294967295 := rfl
  simp only [Lit.wf, h1, h2, Bool.and_eq_true, decide_eq_true_eq] at this
  omega
theorem awake_ev : Ev (fun k => offcutlaw16_awake.f k) true := Ev.now true
theorem KnapNone (a : Int) (l : List S46) (l1 : List S39) (l2 : List Int) (hw1 : ∀ x ∈ l1, (∀ n ∈ x.f0.f1, (Lit.int .u32 n).wf = true) ∧ ∀ n ∈ x.f1, (Lit.int .u32 n).wf = true) : ∃ k, offcutlaw16_KnapNone.f k a l l1 l2 = some true := by
  have ev : Ev (fun k => offcutlaw16_KnapNone.f k a l l1 l2) true := by
    unfold offcutlaw16_KnapNone.f
    have out : Ev (fun k => offcutlaw16_KnapNone.j0 k l1 l2 true a l) true := by
      refine Ev.step (f := fun k => (offcutlaw16_awake.f k).bind fun t409 => some t409) (fun k => ?_) (Ev.bind awake_ev (Ev.now _))
      simp only [offcutlaw16_KnapNone.j0, if_true]
    obtain ⟨b1, e1, p1⟩ := few16 a l
    refine Ev.bind e1 ?_
    cases b1 with
    | false => simpa using out
    | true =>
    simp only [if_true]
    obtain ⟨h4, h7⟩ := p1 rfl
    obtain ⟨b2, e2, p2⟩ := few05 l1
    refine Ev.bind e2 ?_
    cases b2 with
    | false => simpa using out
    | true =>
    simp only [if_true]
    by_cases hc : (l2.length : Int) > 4
    · simp only [if_pos hc]; exact out
    simp only [if_neg hc]
    obtain ⟨b3, e3, p3⟩ := fits_ev a l l2
    refine Ev.bind e3 ?_
    cases b3 with
    | false => simpa using out
    | true =>
    simp only [if_true]
    obtain ⟨hr, hl2, hT, hW⟩ := p3 rfl
    by_cases hl : (l1.length : Int) = (l.length : Int)
    case neg => simp only [if_neg hl]; exact out
    simp only [if_pos hl]
    have hl1 : l1.length = l.length := by omega
    by_cases h512 : a > 512
    · rw [decide_eq_true h512]; exact out
    rw [decide_eq_false h512]
    have hg : l1.all goodS = true := by
      rw [List.all_eq_true]
      intro x hx
      obtain ⟨i, hi, rfl⟩ := List.getElem_of_mem hx
      have h3 := (p2 rfl).2 i hi
      have e : rd_T39 l1 (i : Int) = l1[i] := by
        unfold rd_T39
        rw [Int.toNat_natCast, List.getD_eq_getElem?_getD, List.getElem?_eq_getElem hi]
        rfl
      rw [e] at h3
      have hw := hw1 _ hx
      unfold goodS
      rw [Bool.and_eq_true, Bool.and_eq_true, Bool.and_eq_true, decide_eq_true_eq, decide_eq_true_eq]
      refine ⟨⟨⟨W32b_iff.2 (W32_wf hw.1), W32b_iff.2 (W32_wf hw.2)⟩, h3.1⟩, h3.2⟩
    have hsum := sumN_le h7
    have hbest : knap_Best.f a l l1 = some ((toS (bestQ a l l1)).f0.f0, (toS (bestQ a l l1)).f0.f1, (toS (bestQ a l l1)).f1, bestT a l l1, 0) := by
      unfold knap_Best.f
      rw [hr, if_neg (by decide), if_neg (fun hn => hn hl1), if_neg (by omega), if_pos hg]
    have hTT : ∀ j, j < l1.length → 0 ≤ rd l2 (j : Int) ∧ tkOf l2 j ≤ 1024 := fun j hj => by
      have h1 := hT j (by omega)
      have h2 := h7 j (by omega)
      exact ⟨h1.1, by unfold tkOf; omega⟩
    have hworth := worth_ev hg (by omega) (by omega) hTT
    have hle : wsum l1 l2 l1.length ≤ bestQ a l l1 := by
      rw [hl1]
      exact ks_best (wdOf l) (vOf l1) (fun k hk => by
        have h1 := hT k (List.mem_range.1 hk)
        unfold tkOf needN
        omega) (by omega)
    have hsB : sq (bestQ a l l1) ≤ 200 := by
      have h1 := sq_ksVal (wd := wdOf l) (v := vOf l1) (piecesOf l l1).reverse (fun k hk => by
        have h2 := (ksPick_mem (vOf l1) _ (List.mem_reverse.1 hk)).1
        exact goodS_sq (good_at hg (by have := List.mem_range.1 h2; omega))) a.toNat
      have h3 := pieces_le (l1 := l1) h7 h4
      rw [List.length_reverse] at h1
      unfold bestQ
      omega
    have hsW := wsum_sq hg (fun j hj => (hTT j hj).2) l1.length (Nat.le_refl _)
    have hcmp : Ev (fun k => rat_Compare.f k (toS (bestQ a l l1)).f0.f0 (toS (bestQ a l l1)).f0.f1 (toS (bestQ a l l1)).f1 (rQ (wsum l1 l2 l1.length)).1 (rQ (wsum l1 l2 l1.length)).2.1 (rQ (wsum l1 l2 l1.length)).2.2) (cmpQ (bestQ a l l1) (wsum l1 l2 l1.length)) := by
      have hr1 := rows_le (bestQ a l l1)
      have hr2 := rows_le (wsum l1 l2 l1.length)
      have := rCompare_ev (m := (rQ (bestQ a l l1)).1) (m' := (rQ (wsum l1 l2 l1.length)).1) (RW_rQ (q := bestQ a l l1) (by omega)) (RW_rQ (q := wsum l1 l2 l1.length) (by omega)) (by omega)
      rwa [RV_rQ, RV_rQ] at this
    refine Ev.step (f := fun k => (knap_Worth.f k l1 l2).bind fun bt422 => ((rat_Compare.f k (toS (bestQ a l l1)).f0.f0 (toS (bestQ a l l1)).f0.f1 (toS (bestQ a l l1)).f1 bt422.1 bt422.2.1 bt422.2.2).bind fun t429 => (if t429 ≥ 0 then ((offcutlaw16_awake.f k).bind fun t430 => (some t430)) else (some false)))) (fun k => ?_) (Ev.bind hworth (Ev.bind hcmp ?_))
    · simp only [offcutlaw16_KnapNone.j0]
      rw [if_neg (by decide), hbest, Option.bind_some, if_pos rfl]
    · simp only [if_pos (cmp_ge hle)]
      exact Ev.bind awake_ev (Ev.now _)
  obtain ⟨K, hK⟩ := ev
  exact ⟨K, hK K (Nat.le_refl _)⟩
end Go.Proofs.Ytgnffmbaecabnaa.Pure
