/- For every roll and need (whole numbers of 64 bits) the law KnapMany tells true: what the walk of it computes, in plain Lean. Conditions: none. -/
import Derived.Test.YtgnffmbaecabnaaM11
namespace Go.Proofs.Ytgnffmbaecabnaa.Pure
open Go.RowKit Go.Proofs.Ytgnffmbaecabnaa.M Go.Proofs.YtgnffmbaecabnaaW.PrintWords Go.Proofs.YtgnffmbaecabnaaW.PrintLast
set_option maxRecDepth 100000

theorem one_cast (a b : Nat) : (a : Rat) < (b : Rat) + 1 ↔ a < b + 1 := by
  have h1 : ((b + 1 : Nat) : Rat) = (b : Rat) + 1 := by rw [Rat.natCast_add]; rfl
  rw [← h1]
  exact Rat.natCast_lt_natCast
theorem one_val {wd : Nat → Nat} {v : Nat → Rat} (hw : wd 0 = 1) (hv : v 0 = 1) (n : Nat) : ∀ w, ksVal wd v (List.replicate n 0) w = ((min n w : Nat) : Rat) := by
  induction n with
  | zero => intro w; simp [ksVal]
  | succ n ih =>
    intro w
    rw [List.replicate_succ, ksVal, hw, hv, ih, ih]
    by_cases h : 1 ≤ w ∧ ((min n w : Nat) : Rat) < ((min n (w - 1) : Nat) : Rat) + 1
    · have h' := (one_cast _ _).1 h.2
      rw [if_pos h, show min (n + 1) w = min n (w - 1) + 1 by omega, Rat.natCast_add]; rfl
    · rw [one_cast] at h
      rw [if_neg (by rw [one_cast]; exact h), show min (n + 1) w = min n w by omega]
theorem one_tk {wd : Nat → Nat} {v : Nat → Rat} (hw : wd 0 = 1) (hv : v 0 = 1) (n : Nat) : ∀ w, ksTk wd v (List.replicate n 0) w = List.replicate (min n w) 0 := by
  induction n with
  | zero => intro w; simp [ksTk]
  | succ n ih =>
    intro w
    rw [List.replicate_succ, ksTk, ksCond, hw, hv, one_val hw hv, one_val hw hv, ih, ih]
    by_cases h : 1 ≤ w ∧ ((min n w : Nat) : Rat) < ((min n (w - 1) : Nat) : Rat) + 1
    · have h' := (one_cast _ _).1 h.2
      rw [decide_eq_true h, if_pos rfl, show min (n + 1) w = min n (w - 1) + 1 by omega, List.replicate_succ]
    · rw [decide_eq_false h, if_neg (by decide)]
      rw [one_cast] at h
      rw [show min (n + 1) w = min n w by omega]
theorem ints_one : vec_Ints.f 101 [1] = some [toS 1] := by kernel_rfl
theorem good_one : goodS (toS 1) = true := by kernel_rfl
theorem many_right {a0 a1 : Int} (h : 1 ≤ a0 ∧ a0 ≤ 1048576 ∧ 0 ≤ a1 ∧ a1 ≤ 1024) : rightB a0 [⟨1, a1⟩] = true := by
  simp only [rightB, itemB, List.all_cons, List.all_nil, List.length_cons, List.length_nil, Bool.and_true, Bool.and_eq_true, decide_eq_true_eq]
  omega
theorem many_best {a0 a1 : Int} (h : 1 ≤ a0 ∧ a0 ≤ 1048576 ∧ 0 ≤ a1 ∧ a1 ≤ 1024) :
    knap_Best.f a0 [⟨1, a1⟩] [toS 1] = if 512 < a0 ∨ 64 < a1 then some (false, [], [], [], 4) else some ((toS (bestQ a0 [⟨1, a1⟩] [toS 1])).f0.f0, (toS (bestQ a0 [⟨1, a1⟩] [toS 1])).f0.f1, (toS (bestQ a0 [⟨1, a1⟩] [toS 1])).f1, [mn a0 a1], 0) := by
  have hT : bestT a0 [⟨1, a1⟩] [toS 1] = [mn a0 a1] := by
    have hv : vOf [toS 1] 0 = 1 := vS_toS 1
    have hw : wdOf [⟨1, a1⟩] 0 = 1 := rfl
    have hp : piecesOf [⟨1, a1⟩] [toS 1] = List.replicate a1.toNat 0 := by
      show (if 0 < vOf [toS 1] 0 then List.replicate (needN [⟨1, a1⟩] 0) 0 else []) ++ [] = _
      rw [hv, if_pos (by decide), List.append_nil]
      rfl
    show [(((ksTk (wdOf [⟨1, a1⟩]) (vOf [toS 1]) (piecesOf [⟨1, a1⟩] [toS 1]).reverse a0.toNat).count 0 : Nat) : Int)] = [mn a0 a1]
    rw [hp, List.reverse_replicate, one_tk hw hv, List.count_replicate_self]
    unfold mn
    congr 1
    split <;> omega
  unfold knap_Best.f
  rw [many_right h, if_neg (by decide), if_neg (fun hn => hn rfl), hT]
  have hs : sumN [(⟨1, a1⟩ : S46)] = a1.toNat := rfl
  rw [hs]
  by_cases h1 : 512 < a0 ∨ 64 < a1
  · rw [if_pos h1, if_pos (by omega)]
  · rw [if_neg h1, if_neg (by omega), List.all_cons, good_one, List.all_nil, Bool.and_true, if_pos rfl]
/-- YOURS: ∀ (a0 : Int) (a1 : Int), (Lit.int .i64 a0).wf = true → (Lit.int .i64 a1).wf = true → ∃ k, offcutlaw16_KnapMany.f k a0 a1 = some true -/
theorem KnapMany : offcutlaw16_KnapMany.Pure := by
  intro a0 a1 w0 w1
  refine ⟨102, ?_⟩
  have hout : offcutlaw16_KnapMany.j0 102 a0 a1 true = some true := by
    simp only [offcutlaw16_KnapMany.j0, if_true]
    rfl
  unfold offcutlaw16_KnapMany.f
  by_cases h1 : a0 < 1
  · rw [if_pos h1]; exact hout
  rw [if_neg h1]
  by_cases h2 : a0 > 1048576
  · rw [if_pos h2]; exact hout
  rw [if_neg h2]
  by_cases h3 : a1 < 0
  · rw [if_pos h3]; exact hout
  rw [if_neg h3]
  by_cases h4 : a1 > 1024
  · rw [decide_eq_true h4]; exact hout
  rw [decide_eq_false h4]
  simp only [offcutlaw16_KnapMany.j0]
  rw [if_neg (by decide), ints_one, Option.bind_some, many_best ⟨by omega, by omega, by omega, by omega⟩]
  by_cases h5 : 512 < a0 ∨ 64 < a1
  · rw [if_pos h5, Option.bind_some]
    have hj : offcutlaw16_KnapMany.j1 101 a0 a1 4 true false [] [] [] = some true := by
      simp only [offcutlaw16_KnapMany.j1, if_true, List.length_nil]
      rfl
    by_cases h6 : a0 > 512
    · rw [if_pos h6]; exact hj
    · rw [if_neg h6, decide_eq_true (show a1 > 64 by omega)]; exact hj
  · rw [if_neg h5, Option.bind_some, if_neg (by omega), decide_eq_false (show ¬ a1 > 64 by omega)]
    simp only [offcutlaw16_KnapMany.j1]
    have e1 : (([mn a0 a1].length : Nat) : Int) = 1 := rfl
    have e2 : rd [mn a0 a1] 0 = mn a0 a1 := rfl
    rw [e1, if_neg (by decide), if_pos trivial, if_pos (by decide), if_pos (by decide), if_pos e2]
    rfl

end Go.Proofs.Ytgnffmbaecabnaa.Pure
