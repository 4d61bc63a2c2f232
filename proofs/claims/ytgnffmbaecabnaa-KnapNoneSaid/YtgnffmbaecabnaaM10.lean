-- Printed by a program of this session's own (wip/myprint.py), out of the kit's print with functions given by hand. Lean checks it.
import Derived.Test.YtgnffmbaecabnaaM0
import Derived.Test.YtgnffmbaecabnaaM2
import Derived.Test.YtgnffmbaecabnaaM3
import Derived.Test.YtgnffmbaecabnaaM4
import Derived.Test.YtgnffmbaecabnaaM5
import Derived.Test.YtgnffmbaecabnaaM6
import Derived.Test.YtgnffmbaecabnaaM7
import Derived.Test.YtgnffmbaecabnaaM8
import Derived.Test.YtgnffmbaecabnaaM9
namespace Go.Proofs.Ytgnffmbaecabnaa.M
open Go.RowKit Go.Shelf Go.Proofs.YtgnffmbaecabnaaW.PrintWords Go.Proofs.YtgnffmbaecabnaaW.PrintLast Go.Proofs.YtgnffmbaecabnaaW.PrintMore
attribute [local go_sem] z33q z31q max_two min_two z28q z27q z32q z30q   -- for this text's walks alone
set_option linter.unusedVariables false
set_option linter.unusedSimpArgs false
set_option maxRecDepth 100000
theorem DivMod_eq {a b : List Int} (ha : W32 a) (hb : W32 b) (la : a.length ≤ 274877906944) (lb : b.length ≤ 274877906944) (h : V b ≠ 0) : nat_DivMod.f a b = some (dg (V a / V b), dg (V a % V b), 0) := by
  unfold nat_DivMod.f
  rw [if_pos ⟨W32b_iff.2 ha, W32b_iff.2 hb, la, lb⟩, if_neg h]
theorem Gcd_loop (y : Nat) : ∀ x : Nat, (dg x).length ≤ 274877906944 → (dg y).length ≤ 274877906944 → Ev (fun k => nat_Gcd.l0 k (dg x) (dg y)) (dg (Nat.gcd y x)) := by
  induction y using Nat.strongRecOn with
  | _ y ih =>
    intro x hx hy
    rcases Nat.eq_zero_or_pos y with rfl | h0
    · refine Ev.step (f := fun _ => some (dg x)) (fun k => ?_) (by rw [Nat.gcd_zero_left]; exact Ev.now _)
      simp [nat_Gcd.l0, dg_zero]
    · have hl : ((dg y).length : Int) > 0 := by
        rcases Nat.eq_zero_or_pos (dg y).length with h1 | h1
        · have h2 := List.length_eq_zero_iff.1 h1
          have h3 : V (dg y) = 0 := by rw [h2]; rfl
          rw [V_dg] at h3
          omega
        · omega
      refine Ev.step (f := fun k => nat_Gcd.l0 k (dg y) (dg (x % y))) (fun k => ?_) ?_
      · simp only [nat_Gcd.l0]
        rw [if_pos hl, DivMod_eq (W32_dg _) (W32_dg _) hx hy (by rw [V_dg]; omega), V_dg, V_dg]
        rfl
      · rw [Nat.gcd_rec y x]
        exact ih (x % y) (Nat.mod_lt _ h0) y hy (Nat.le_trans (dg_length_mono (Nat.le_of_lt (Nat.mod_lt x h0))) hy)
theorem Gcd_ev {a b : List Int} (ha : W32 a) (hb : W32 b) (la : a.length ≤ 274877906944) (lb : b.length ≤ 274877906944) : Ev (fun k => nat_Gcd.f k a b) (dg (Nat.gcd (V b) (V a))) := by
  unfold nat_Gcd.f
  exact Ev.bind (trim_ev ha (by omega)) (Ev.bind (trim_ev hb (by omega)) (Gcd_loop _ _ (Nat.le_trans (z19q.2 (V_lt ha)) la) (Nat.le_trans (z19q.2 (V_lt hb)) lb)))
theorem dg_pos_iff (n : Nat) : decide (0 < (dg n).length) = decide (0 < n) := by
  rcases Nat.eq_zero_or_pos n with rfl | h
  · simp [dg_zero]
  · have : 0 < (dg n).length := by
      rcases Nat.eq_zero_or_pos (dg n).length with h1 | h1
      · have h3 : V (dg n) = 0 := by rw [List.length_eq_zero_iff.1 h1]; rfl
        rw [V_dg] at h3
        omega
      · exact h1
    simp [h, this]
theorem wMake_ev {m : Bool} {l : List Int} (hw : W32 l) (hl : l.length ≤ 1099511627776) : Ev (fun k => whole_Make.f k m l) (m && decide (0 < V l), dg (V l)) := by
  unfold whole_Make.f
  have h := Shift_ev hw hl 0 (by omega)
  rw [Nat.pow_zero, Nat.one_mul] at h
  refine Ev.bind h ?_
  cases m
  · exact ev_is (Ev.now _) (by simp)
  · exact ev_is (Ev.now _) (by simp [dg_pos_iff])
theorem wSign_ev {m : Bool} {l : List Int} (hw : W32 l) (hl : l.length ≤ 1099511627776) : Ev (fun k => whole_Sign.f k m l) (if V l = 0 then 0 else if m = true then -1 else 1) := by
  unfold whole_Sign.f
  refine Ev.bind (wMake_ev hw hl) ?_
  by_cases h : V l = 0
  · rw [h, dg_zero]
    exact ev_is (Ev.now _) (by simp)
  · have h1 : ¬ ((dg (V l)).length : Int) = 0 := by
      have := dg_pos_iff (V l)
      rw [decide_eq_decide] at this
      omega
    rw [if_neg h1, if_neg h]
    cases m
    · exact ev_is (Ev.now _) (by simp)
    · have h2 : 0 < V l := by omega
      simp only [h2, decide_true, Bool.and_true, if_true]
      exact Ev.now _
def IV (m : Bool) (l : List Int) : Int := if m = true then -(V l : Int) else (V l : Int)
def wI (z : Int) : Bool × List Int := (decide (z < 0), dg z.natAbs)
theorem wMake_eq (m : Bool) (l : List Int) : (m && decide (0 < V l), dg (V l)) = wI (IV m l) := by
  cases m <;> simp [wI, IV]
theorem wSign_eq (m : Bool) (l : List Int) : (if V l = 0 then (0 : Int) else if m = true then -1 else 1) = (IV m l).sign := by
  by_cases h : V l = 0
  · cases m <;> simp [IV, h]
  · rw [if_neg h]
    cases m
    · simp only [IV, if_false, Bool.false_eq_true]
      exact (Int.sign_eq_one_of_pos (by omega)).symm
    · simp only [IV, if_true]
      exact (Int.sign_eq_neg_one_of_neg (by omega)).symm
theorem dg_mul_len {a b : List Int} (ha : W32 a) (hb : W32 b) : (dg (V a * V b)).length ≤ a.length + b.length := by
  refine z19q.2 ?_
  rw [Nat.pow_add]
  exact Nat.mul_lt_mul'' (V_lt ha) (V_lt hb)
theorem IV_abs (m : Bool) (l : List Int) : (IV m l).natAbs = V l := by cases m <;> simp [IV]
theorem wMul_ev {m m' : Bool} {a b : List Int} (ha : W32 a) (hb : W32 b) (la : a.length ≤ 274877906944) (lb : b.length ≤ 274877906944) : Ev (fun k => whole_Mul.f k m a m' b) (wI (IV m a * IV m' b)) := by
  unfold whole_Mul.f
  refine Ev.bind (wSign_ev ha (by omega)) (Ev.bind (wSign_ev hb (by omega)) (Ev.bind (Mul_ev ha hb (by omega) (by omega)) (Ev.bind (wMake_ev (W32_dg _) (by have := dg_mul_len ha hb; omega)) (ev_is (Ev.now _) ?_))))
  rw [wSign_eq, wSign_eq, V_dg]
  have h1 : (IV m a).sign * (IV m' b).sign = (IV m a * IV m' b).sign := (Int.sign_mul _ _).symm
  have h2 : wrap64 ((IV m a).sign * (IV m' b).sign) = (IV m a * IV m' b).sign := by
    rw [h1]
    rcases Int.lt_trichotomy (IV m a * IV m' b) 0 with h | h | h
    · rw [Int.sign_eq_neg_one_of_neg h]; exact z24q (by decide) (by decide)
    · rw [h]; exact z24q (by decide) (by decide)
    · rw [Int.sign_eq_one_of_pos h]; exact z24q (by decide) (by decide)
  rw [h2]
  have h3 : V a * V b = (IV m a * IV m' b).natAbs := by rw [Int.natAbs_mul, IV_abs, IV_abs]
  rw [h3]
  generalize IV m a * IV m' b = z
  simp only [wI, Prod.mk.injEq, and_true]
  rcases Int.lt_trichotomy z 0 with h | h | h
  · have h4 : 0 < z.natAbs := by omega
    simp [Int.sign_eq_neg_one_of_neg h, h, h4]
  · subst h; simp
  · have h4 : ¬ z < 0 := by omega
    simp [Int.sign_eq_one_of_pos h, h4]
theorem sign_neg_iff (x : Int) : decide (x.sign < 0) = decide (x < 0) := by
  rcases Int.lt_trichotomy x 0 with h | h | h
  · simp [Int.sign_eq_neg_one_of_neg h, h]
  · subst h; rfl
  · have : ¬ x < 0 := by omega
    simp [Int.sign_eq_one_of_pos h, this]
theorem wI_of {z : Int} {s : Bool} {n : Nat} (hn : z.natAbs = n) (hs : 0 < n → (s = decide (z < 0))) : (s && decide (0 < V (dg n)), dg (V (dg n))) = wI z := by
  rw [V_dg, ← hn]
  simp only [wI, Prod.mk.injEq, and_true]
  by_cases h : 0 < n
  · rw [hs h]
    rcases Int.lt_trichotomy z 0 with h1 | h1 | h1 <;> simp <;> omega
  · have : z = 0 := by omega
    subst this
    simp
theorem dg_add_len {a b : List Int} (ha : W32 a) (hb : W32 b) : (dg (V a + V b)).length ≤ max a.length b.length + 1 := by
  refine z19q.2 ?_
  have h1 := V_lt ha
  have h2 := V_lt hb
  have h3 : 4294967296 ^ a.length ≤ 4294967296 ^ (max a.length b.length) := Nat.pow_le_pow_right (by omega) (Nat.le_max_left _ _)
  have h4 : 4294967296 ^ b.length ≤ 4294967296 ^ (max a.length b.length) := Nat.pow_le_pow_right (by omega) (Nat.le_max_right _ _)
  rw [Nat.pow_succ]
  omega
theorem wAdd_ev {m m' : Bool} {a b : List Int} (ha : W32 a) (hb : W32 b) (la : a.length ≤ 274877906944) (lb : b.length ≤ 274877906944) : Ev (fun k => whole_Add.f k m a m' b) (wI (IV m a + IV m' b)) := by
  unfold whole_Add.f
  have sa := wSign_ev (m := m) ha (by omega)
  have sb := wSign_ev (m := m') hb (by omega)
  rw [wSign_eq] at sa sb
  have hP := IV_abs m a
  have hQ := IV_abs m' b
  refine Ev.bind sa (Ev.bind sb ?_)
  simp only [sign_neg_iff]
  by_cases hs : (decide (IV m a < 0) == decide (IV m' b < 0)) = true
  · simp only [if_pos hs]
    refine Ev.bind sa (Ev.bind (Add_ev ha hb (by omega) (by omega)) (Ev.bind (wMake_ev (W32_dg _) (by have := dg_add_len ha hb; omega)) (ev_is (Ev.now _) ?_)))
    rw [sign_neg_iff]
    have hs' := eq_of_beq hs
    rw [decide_eq_decide] at hs'
    exact wI_of (by omega) (fun h => by rw [decide_eq_decide]; omega)
  · simp only [if_neg hs]
    have hs' : ¬ (IV m a < 0 ↔ IV m' b < 0) := fun h => hs (by rw [beq_iff_eq, decide_eq_decide]; exact h)
    refine Ev.bind (Sub_ev ha hb (by omega) (by omega)) ?_
    by_cases hlt : V a < V b
    · simp only [if_pos hlt, Bool.false_eq_true, if_false]
      refine Ev.bind (Sub_ev hb ha (by omega) (by omega)) ?_
      simp only [if_neg (show ¬ V b < V a by omega)]
      refine Ev.bind sb (Ev.bind (wMake_ev (W32_dg _) (by have := dg_length_mono (show V b - V a ≤ V b by omega); have := z19q.2 (V_lt hb); omega)) (ev_is (Ev.now _) ?_))
      rw [sign_neg_iff]
      exact wI_of (by omega) (fun h => by rw [decide_eq_decide]; omega)
    · simp only [if_neg hlt, if_true]
      refine Ev.bind sa (Ev.bind (wMake_ev (W32_dg _) (by have := dg_length_mono (show V a - V b ≤ V a by omega); have := z19q.2 (V_lt ha); omega)) (ev_is (Ev.now _) ?_))
      rw [sign_neg_iff]
      exact wI_of (by omega) (fun h => by rw [decide_eq_decide]; omega)
def cmpI (x y : Int) : Int := if x < y then -1 else if x = y then 0 else 1
theorem wCompare_ev {m m' : Bool} {a b : List Int} (ha : W32 a) (hb : W32 b) (la : a.length ≤ 274877906944) (lb : b.length ≤ 274877906944) : Ev (fun k => whole_Compare.f k m a m' b) (cmpI (IV m a) (IV m' b)) := by
  unfold whole_Compare.f
  have sa := wSign_ev (m := m) ha (by omega)
  have sb := wSign_ev (m := m') hb (by omega)
  rw [wSign_eq] at sa sb
  have hP := IV_abs m a
  have hQ := IV_abs m' b
  refine Ev.bind sa (Ev.bind sb ?_)
  by_cases hs : (IV m a).sign = (IV m' b).sign
  · simp only [if_pos hs]
    by_cases hn : (IV m a).sign < 0
    · simp only [if_pos hn]
      refine Ev.bind (Compare_ev hb ha (by omega) (by omega)) (ev_is (Ev.now _) ?_)
      have h1 : IV m a < 0 := by simpa using (decide_eq_decide.1 (sign_neg_iff (IV m a))).1 hn
      have h2 : IV m' b < 0 := (decide_eq_decide.1 (sign_neg_iff (IV m' b))).1 (hs ▸ hn)
      unfold cmpN cmpI
      split <;> split <;> (try split) <;> omega
    · simp only [if_neg hn]
      refine Ev.bind (Compare_ev ha hb (by omega) (by omega)) (ev_is (Ev.now _) ?_)
      have h1 : ¬ IV m a < 0 := fun h => hn ((decide_eq_decide.1 (sign_neg_iff (IV m a))).2 h)
      have h2 : ¬ IV m' b < 0 := fun h => hn (hs ▸ (decide_eq_decide.1 (sign_neg_iff (IV m' b))).2 h)
      unfold cmpN cmpI
      split <;> split <;> (try split) <;> omega
  · simp only [if_neg hs]
    refine ev_is (Ev.now _) ?_
    generalize IV m a = x at *
    generalize IV m' b = y at *
    rcases Int.lt_trichotomy x 0 with h | h | h <;> rcases Int.lt_trichotomy y 0 with h' | h' | h'
    all_goals simp only [h, h', Int.sign_eq_neg_one_of_neg, Int.sign_eq_one_of_pos, Int.sign_zero, not_true_eq_false] at hs ⊢
    all_goals rw [z24q (by omega) (by omega)]
    all_goals unfold cmpI mn mx
    all_goals (repeat' split) <;> omega
theorem mkRat_lt {n1 n2 : Int} {d1 d2 : Nat} (h1 : d1 ≠ 0) (h2 : d2 ≠ 0) : mkRat n1 d1 < mkRat n2 d2 ↔ n1 * (d2 : Int) < n2 * (d1 : Int) := by
  obtain ⟨a, ha⟩ : ∃ a, mkRat n1 d1 = a := ⟨_, rfl⟩
  obtain ⟨b, hb⟩ : ∃ b, mkRat n2 d2 = b := ⟨_, rfl⟩
  obtain ⟨m1, hm1, e1, f1⟩ := Rat.mkRat_num_den h1 (ha.trans (show a = ⟨a.num, a.den, a.den_nz, a.reduced⟩ from rfl))
  obtain ⟨m2, hm2, e2, f2⟩ := Rat.mkRat_num_den h2 (hb.trans (show b = ⟨b.num, b.den, b.den_nz, b.reduced⟩ from rfl))
  rw [ha, hb, Rat.lt_iff, e1, f1, e2, f2]
  push_cast
  have k1 : (0 : Int) < m1 := by omega
  have k2 : (0 : Int) < m2 := by omega
  have k : (0 : Int) < (m1 : Int) * m2 := Int.mul_pos k1 k2
  have t1 : a.num * (m1 : Int) * ((b.den : Int) * m2) = (a.num * b.den) * (m1 * m2) := by grind
  have t2 : b.num * (m2 : Int) * ((a.den : Int) * m1) = (b.num * a.den) * (m1 * m2) := by grind
  rw [t1, t2]
  exact (Int.mul_lt_mul_right k).symm
def dn (d : List Int) : Nat := if V d = 0 then 1 else V d
theorem dn_ne (d : List Int) : dn d ≠ 0 := by unfold dn; split <;> omega
def RV (m : Bool) (n d : List Int) : Rat := mkRat (IV m n) (dn d)
def rQ (q : Rat) : Bool × List Int × List Int := (decide (q.num < 0), dg q.num.natAbs, dg q.den)
theorem IV_wI (z : Int) : IV (wI z).1 (wI z).2 = z := by
  simp only [wI, IV, V_dg]
  by_cases h : z < 0 <;> simp [h] <;> omega
theorem dn_dg {n : Nat} (h : n ≠ 0) : dn (dg n) = n := by unfold dn; rw [V_dg, if_neg h]
theorem RV_rQ (q : Rat) : RV (rQ q).1 (rQ q).2.1 (rQ q).2.2 = q := by
  have h1 : IV (rQ q).1 (rQ q).2.1 = q.num := IV_wI q.num
  have h2 : dn (rQ q).2.2 = q.den := dn_dg q.den_nz
  unfold RV
  rw [h1, h2]
  exact Rat.mkRat_self q
structure RW (n d : List Int) : Prop where
  wn : W32 n
  wd : W32 d
  ln : n.length ≤ 1073741824
  ld : d.length ≤ 1073741824
def denL (l : List Int) : List Int := if V l = 0 then [1] else l
theorem V_denL (l : List Int) : V (denL l) = dn l := by
  unfold denL dn
  split
  · rfl
  · rfl
theorem W32_denL {l : List Int} (h : W32 l) : W32 (denL l) := by
  unfold denL
  split
  · intro x hx; simp at hx; omega
  · exact h
theorem denL_len (l : List Int) : (denL l).length ≤ max 1 l.length := by
  unfold denL
  split
  · simp; omega
  · omega
def lenTab : ByteArray := ⟨#[0, 1, 2, 2, 3, 3, 3, 3, 4, 4, 4, 4, 4, 4, 4, 4, 5, 5, 5, 5, 5, 5, 5, 5, 5, 5, 5, 5, 5, 5, 5, 5, 6, 6, 6, 6, 6, 6, 6, 6, 6, 6, 6, 6, 6, 6, 6, 6, 6, 6, 6, 6, 6, 6, 6, 6, 6, 6, 6, 6, 6, 6, 6, 6, 7, 7, 7, 7, 7, 7, 7, 7, 7, 7, 7, 7, 7, 7, 7, 7, 7, 7, 7, 7, 7, 7, 7, 7, 7, 7, 7, 7, 7, 7, 7, 7, 7, 7, 7, 7, 7, 7, 7, 7, 7, 7, 7, 7, 7, 7, 7, 7, 7, 7, 7, 7, 7, 7, 7, 7, 7, 7, 7, 7, 7, 7, 7, 7, 8, 8, 8, 8, 8, 8, 8, 8, 8, 8, 8, 8, 8, 8, 8, 8, 8, 8, 8, 8, 8, 8, 8, 8, 8, 8, 8, 8, 8, 8, 8, 8, 8, 8, 8, 8, 8, 8, 8, 8, 8, 8, 8, 8, 8, 8, 8, 8, 8, 8, 8, 8, 8, 8, 8, 8, 8, 8, 8, 8, 8, 8, 8, 8, 8, 8, 8, 8, 8, 8, 8, 8, 8, 8, 8, 8, 8, 8, 8, 8, 8, 8, 8, 8, 8, 8, 8, 8, 8, 8, 8, 8, 8, 8, 8, 8, 8, 8, 8, 8, 8, 8, 8, 8, 8, 8, 8, 8, 8, 8, 8, 8, 8, 8, 8, 8, 8, 8, 8, 8, 8, 8, 8, 8, 8, 8, 8, 8]⟩
theorem lenTab_pos : ((List.range 256).all fun n => n == 0 || decide (1 ≤ bt lenTab (n : Int))) = true := by decide +kernel
theorem bt_bd (s : ByteArray) (i : Int) : 0 ≤ bt s i ∧ bt s i ≤ 255 := by
  unfold bt
  split
  · have := (s[i.toNat]).toNat_lt
    omega
  · omega
theorem Len32_pos (x : Int) (h0 : 1 ≤ x) (h1 : x < 4294967296) : ∃ t, bits_Len32.f x = some t ∧ 1 ≤ t ∧ t ≤ 300 := by
  unfold bits_Len32.f
  repeat' split
  all_goals first
    | (exfalso; omega)
    | (refine ⟨_, rfl, ?_⟩
       generalize hq : bt _ _ = q
       have hb : 0 ≤ q ∧ q ≤ 255 := by rw [← hq]; exact bt_bd _ _
       clear hq
       unfold wrap64
       omega)
    | (refine ⟨_, rfl, ?_⟩
       have h2 := List.all_eq_true.1 lenTab_pos x.toNat (List.mem_range.2 (by omega))
       have h3 : ((x.toNat : Nat) : Int) = x % 256 := by omega
       rw [h3] at h2
       have h4 : (x.toNat == 0) = false := by rw [beq_eq_false_iff_ne]; omega
       rw [h4, Bool.false_or] at h2
       have h5 := of_decide_eq_true h2
       have h6 := bt_bd lenTab (x % 256)
       generalize hq : bt _ _ = q
       have h7 : 1 ≤ q ∧ q ≤ 255 := by rw [← hq]; exact ⟨h5, h6.2⟩
       clear hq h2 h5 h6
       unfold wrap64
       omega)
theorem Bits_ev {l : List Int} (hw : W32 l) (hl : l.length ≤ 1099511627776) : ∃ t, Ev (fun k => nat_Bits.f k l) t ∧ (t = 0 ↔ V l = 0) := by
  unfold nat_Bits.f
  have ht := trim_ev hw (by omega)
  by_cases h : V l = 0
  · refine ⟨0, Ev.bind ht (ev_is (Ev.congr (f := fun _ => some 0) (fun k => ?_) (Ev.now _)) rfl), by simp [h]⟩
    rw [h, dg_zero]
    rfl
  · have hl0 : 0 < (dg (V l)).length := by
      have := dg_pos_iff (V l)
      rw [decide_eq_decide] at this
      omega
    have hl1 : (dg (V l)).length ≤ 1099511627776 := Nat.le_trans (z19q.2 (V_lt hw)) hl
    have hm : wrap64 (((dg (V l)).length : Int) - 1) = (((dg (V l)).length - 1 : Nat) : Int) := by rw [z24q (by omega) (by omega)]; omega
    have hw' := W32_dg (V l)
    have hlast : 1 ≤ (dg (V l)).getD ((dg (V l)).length - 1) 0 := by
      have h1 := z34q hw' ((dg (V l)).length - 1)
      rcases Int.lt_or_le 0 ((dg (V l)).getD ((dg (V l)).length - 1) 0) with h2 | h2
      · omega
      · exfalso
        have h3 : (dg (V l)).getD ((dg (V l)).length - 1) 0 = 0 := by omega
        have h4 := V_take (dg (V l)) ((dg (V l)).length - 1) (by omega)
        rw [show (dg (V l)).length - 1 + 1 = (dg (V l)).length by omega, List.take_length, h3, V_dg] at h4
        simp at h4
        have h5 := V_lt (W32_take hw' ((dg (V l)).length - 1))
        rw [← h4, List.length_take, Nat.min_eq_left (by omega)] at h5
        have h6 := z19q.2 h5
        omega
    obtain ⟨t, h7, h8, h9⟩ := Len32_pos _ hlast (z34q hw' _).2
    refine ⟨_, Ev.bind ht (ev_is (Ev.congr (f := fun _ => some (wrap64 ((wrap64 (32 * (((dg (V l)).length - 1 : Nat) : Int))) + t))) (fun k => ?_) (Ev.now _)) rfl), ?_⟩
    · rw [if_neg (by omega), hm, if_pos (by omega), if_pos (by omega), rd_eq, h7]
      rfl
    · rw [z24q (x := 32 * _) (by omega) (by omega), z24q (by omega) (by omega)]
      omega
theorem den_ev {l : List Int} (hw : W32 l) (hl : l.length ≤ 1099511627776) : Ev (fun k => rat_den.f k l) (denL l) := by
  unfold rat_den.f
  obtain ⟨t, ht, hz⟩ := Bits_ev hw hl
  refine Ev.bind ht ?_
  unfold denL
  by_cases h : V l = 0
  · simp only [hz.2 h, if_pos h, if_true]
    exact ev_is (Of_ev (by omega) (by omega)) rfl
  · rw [if_neg h]
    exact ev_is (Ev.congr (f := fun _ => some l) (fun k => by rw [if_neg (fun e => h (hz.1 e))]) (Ev.now _)) rfl
theorem rMake_ev {m : Bool} {n d : List Int} (h : RW n d) : Ev (fun k => rat_Make.f k m n d) (rQ (RV m n d)) := by
  unfold rat_Make.f
  have hdl : (denL d).length ≤ 1073741824 := Nat.le_trans (denL_len d) (by have := h.ld; omega)
  have hdw := W32_denL h.wd
  have hg0 : Nat.gcd (dn d) (V n) ≠ 0 := fun e => dn_ne d (Nat.eq_zero_of_gcd_eq_zero_left e)
  have hgl : (dg (Nat.gcd (dn d) (V n))).length ≤ 1073741824 := by
    refine Nat.le_trans (dg_length_mono (Nat.gcd_le_left _ (Nat.pos_of_ne_zero (dn_ne d)))) ?_
    rw [← V_denL]
    exact Nat.le_trans (z19q.2 (V_lt hdw)) hdl
  have hG := Gcd_ev h.wn hdw (by have := h.ln; omega) (by omega)
  rw [V_denL] at hG
  have hN := DivMod_eq h.wn (W32_dg (Nat.gcd (dn d) (V n))) (by have := h.ln; omega) (by omega) (by rw [V_dg]; exact hg0)
  have hM := DivMod_eq hdw (W32_dg (Nat.gcd (dn d) (V n))) (by omega) (by omega) (by rw [V_dg]; exact hg0)
  rw [V_dg] at hN hM
  rw [V_denL] at hM
  have hnl : (dg (V n / Nat.gcd (dn d) (V n))).length ≤ 1073741824 := Nat.le_trans (dg_length_mono (Nat.div_le_self _ _)) (Nat.le_trans (z19q.2 (V_lt h.wn)) h.ln)
  refine Ev.bind (den_ev h.wd (by have := h.ld; omega)) (Ev.bind hG (Ev.bind (ev_const hN) (Ev.bind (ev_const hM) (Ev.bind (wMake_ev (W32_dg _) (by dsimp only; omega)) (ev_is (Ev.now _) ?_)))))
  dsimp only
  rw [V_dg]
  unfold rQ RV
  rw [Rat.num_mkRat, Rat.den_mkRat, if_neg (dn_ne d), if_neg (dn_ne d), IV_abs]
  obtain ⟨c, hc⟩ := Nat.gcd_dvd_right (dn d) (V n)
  have hgp : 0 < Nat.gcd (dn d) (V n) := Nat.pos_of_ne_zero hg0
  generalize Nat.gcd (dn d) (V n) = g at *
  have hv : V n / g = c := by rw [hc]; exact Nat.mul_div_cancel_left c hgp
  rw [hv]
  have hi : IV m n / (g : Int) = if m = true then -(c : Int) else (c : Int) := by
    unfold IV
    rw [hc]
    push_cast
    cases m
    · simp only [Bool.false_eq_true, if_false]
      exact Int.mul_ediv_cancel_left _ (by omega)
    · simp only [if_true]
      rw [← Int.mul_neg]
      exact Int.mul_ediv_cancel_left _ (by omega)
  rw [hi]
  cases m
  · simp only [Bool.false_eq_true, if_false, Bool.false_and]
    refine Prod.ext ?_ (Prod.ext ?_ rfl)
    · show false = decide ((c : Int) < 0)
      exact (decide_eq_false (by omega)).symm
    · simp
  · simp only [if_true, Bool.true_and]
    refine Prod.ext ?_ (Prod.ext ?_ rfl)
    · show decide (0 < c) = decide (-(c : Int) < 0)
      rw [decide_eq_decide]; omega
    · simp
theorem RW.den {n d : List Int} (h : RW n d) : W32 (denL d) ∧ (denL d).length ≤ 1073741824 := ⟨W32_denL h.wd, Nat.le_trans (denL_len d) (by have := h.ld; omega)⟩
theorem rOver_ev {m m' : Bool} {n d n' d' : List Int} (h : RW n d) (h' : RW n' d') : Ev (fun k => rat_over.f k m n d m' n' d') (wI (IV m n * (dn d' : Int))) := by
  unfold rat_over.f
  obtain ⟨hw, hl⟩ := h'.den
  refine Ev.bind (den_ev h'.wd (by have := h'.ld; omega)) (Ev.bind (wMake_ev hw (by omega)) (ev_is (Ev.bind (wMul_ev (m := m) (m' := (false && decide (0 < V (denL d')))) h.wn (W32_dg _) (by have := h.ln; omega) (Nat.le_trans (z19q.2 (V_lt hw)) (by omega))) (Ev.now _)) ?_))
  have : IV (false && decide (0 < V (denL d'))) (dg (V (denL d'))) = (dn d' : Int) := by
    simp [IV, V_dg, V_denL]
  rw [this]
theorem wI_len (z : Int) (m : Nat) (h : z.natAbs < 4294967296 ^ m) : W32 (wI z).2 ∧ (wI z).2.length ≤ m := ⟨W32_dg _, z19q.2 h⟩
theorem IV_natAbs_lt {m : Bool} {n : List Int} (h : W32 n) : (IV m n).natAbs < 4294967296 ^ n.length := by rw [IV_abs]; exact V_lt h
theorem dn_lt {d : List Int} (h : W32 d) : dn d < 4294967296 ^ (max 1 d.length) := by
  rw [← V_denL]
  exact Nat.lt_of_lt_of_le (V_lt (W32_denL h)) (Nat.pow_le_pow_right (by omega) (denL_len d))
theorem rMul_ev {m m' : Bool} {n d n' d' : List Int} (h : RW n d) (h' : RW n' d') (hn : n.length + n'.length ≤ 1000000000) (hd : d.length + d'.length ≤ 1000000000) : Ev (fun k => rat_Mul.f k m n d m' n' d') (rQ (RV m n d * RV m' n' d')) := by
  unfold rat_Mul.f
  obtain ⟨hw, hl⟩ := h.den
  obtain ⟨hw', hl'⟩ := h'.den
  have hz : (IV m n * IV m' n').natAbs < 4294967296 ^ (n.length + n'.length) := by
    rw [Int.natAbs_mul, Nat.pow_add]
    exact Nat.mul_lt_mul'' (IV_natAbs_lt h.wn) (IV_natAbs_lt h'.wn)
  obtain ⟨z1, z2⟩ := wI_len _ _ hz
  have hdl : (dg (V (denL d) * V (denL d'))).length ≤ (denL d).length + (denL d').length := dg_mul_len hw hw'
  have h1 := denL_len d
  have h2 := denL_len d'
  have hM := rMake_ev (m := (wI (IV m n * IV m' n')).1) (n := (wI (IV m n * IV m' n')).2) (d := dg (V (denL d) * V (denL d'))) ⟨z1, W32_dg _, by omega, by omega⟩
  refine Ev.bind (wMul_ev h.wn h'.wn (by have := h.ln; omega) (by have := h'.ln; omega)) (Ev.bind (den_ev h.wd (by have := h.ld; omega)) (Ev.bind (den_ev h'.wd (by have := h'.ld; omega)) (Ev.bind (Mul_ev hw hw' (by omega) (by omega)) (Ev.bind hM (ev_is (Ev.now _) ?_)))))
  have e : RV (wI (IV m n * IV m' n')).1 (wI (IV m n * IV m' n')).2 (dg (V (denL d) * V (denL d'))) = RV m n d * RV m' n' d' := by
    unfold RV
    rw [IV_wI, V_denL, V_denL, dn_dg (Nat.mul_ne_zero (dn_ne d) (dn_ne d')), Rat.mkRat_mul_mkRat]
  rw [e]
theorem rAdd_ev {m m' : Bool} {n d n' d' : List Int} (h : RW n d) (h' : RW n' d') (hs : n.length + d.length + n'.length + d'.length ≤ 1000000000) : Ev (fun k => rat_Add.f k m n d m' n' d') (rQ (RV m n d + RV m' n' d')) := by
  unfold rat_Add.f
  obtain ⟨hw, hl⟩ := h.den
  obtain ⟨hw', hl'⟩ := h'.den
  have h1 := denL_len d
  have h2 := denL_len d'
  have hp : (IV m n * (dn d' : Int)).natAbs < 4294967296 ^ (n.length + max 1 d'.length) := by
    rw [Int.natAbs_mul, Nat.pow_add, Int.natAbs_natCast]
    exact Nat.mul_lt_mul'' (IV_natAbs_lt h.wn) (dn_lt h'.wd)
  have hq : (IV m' n' * (dn d : Int)).natAbs < 4294967296 ^ (n'.length + max 1 d.length) := by
    rw [Int.natAbs_mul, Nat.pow_add, Int.natAbs_natCast]
    exact Nat.mul_lt_mul'' (IV_natAbs_lt h'.wn) (dn_lt h.wd)
  obtain ⟨p1, p2⟩ := wI_len _ _ hp
  obtain ⟨q1, q2⟩ := wI_len _ _ hq
  have hz : (IV m n * (dn d' : Int) + IV m' n' * (dn d : Int)).natAbs < 4294967296 ^ (n.length + d.length + n'.length + d'.length + 3) := by
    have h3 : 4294967296 ^ (n.length + max 1 d'.length) ≤ 4294967296 ^ (n.length + d.length + n'.length + d'.length + 2) := Nat.pow_le_pow_right (by omega) (by omega)
    have h4 : 4294967296 ^ (n'.length + max 1 d.length) ≤ 4294967296 ^ (n.length + d.length + n'.length + d'.length + 2) := Nat.pow_le_pow_right (by omega) (by omega)
    have h5 : 4294967296 ^ (n.length + d.length + n'.length + d'.length + 3) = 4294967296 ^ (n.length + d.length + n'.length + d'.length + 2) * 4294967296 := Nat.pow_succ _ _
    have h6 := Int.natAbs_add_le (IV m n * (dn d' : Int)) (IV m' n' * (dn d : Int))
    omega
  obtain ⟨z1, z2⟩ := wI_len _ _ hz
  have hdl : (dg (V (denL d) * V (denL d'))).length ≤ (denL d).length + (denL d').length := dg_mul_len hw hw'
  have hA := wAdd_ev (m := (wI (IV m n * (dn d' : Int))).1) (m' := (wI (IV m' n' * (dn d : Int))).1) p1 q1 (by omega) (by omega)
  rw [IV_wI, IV_wI] at hA
  have hM := rMake_ev (m := (wI (IV m n * (dn d' : Int) + IV m' n' * (dn d : Int))).1) (n := (wI (IV m n * (dn d' : Int) + IV m' n' * (dn d : Int))).2) (d := dg (V (denL d) * V (denL d'))) ⟨z1, W32_dg _, by omega, by omega⟩
  refine Ev.bind (rOver_ev h h') (Ev.bind (rOver_ev h' h) (Ev.bind hA (Ev.bind (den_ev h.wd (by have := h.ld; omega)) (Ev.bind (den_ev h'.wd (by have := h'.ld; omega)) (Ev.bind (Mul_ev hw hw' (by omega) (by omega)) (Ev.bind hM (ev_is (Ev.now _) ?_)))))))
  have e : RV (wI (IV m n * (dn d' : Int) + IV m' n' * (dn d : Int))).1 (wI (IV m n * (dn d' : Int) + IV m' n' * (dn d : Int))).2 (dg (V (denL d) * V (denL d'))) = RV m n d + RV m' n' d' := by
    unfold RV
    rw [IV_wI, V_denL, V_denL, dn_dg (Nat.mul_ne_zero (dn_ne d) (dn_ne d')), Rat.mkRat_add_mkRat _ _ (dn_ne d) (dn_ne d')]
  rw [e]
def cmpQ (x y : Rat) : Int := if x < y then -1 else if x = y then 0 else 1
theorem rCompare_ev {m m' : Bool} {n d n' d' : List Int} (h : RW n d) (h' : RW n' d') (hs : n.length + d.length + n'.length + d'.length ≤ 1000000000) : Ev (fun k => rat_Compare.f k m n d m' n' d') (cmpQ (RV m n d) (RV m' n' d')) := by
  unfold rat_Compare.f
  have hp : (IV m n * (dn d' : Int)).natAbs < 4294967296 ^ (n.length + max 1 d'.length) := by
    rw [Int.natAbs_mul, Nat.pow_add, Int.natAbs_natCast]
    exact Nat.mul_lt_mul'' (IV_natAbs_lt h.wn) (dn_lt h'.wd)
  have hq : (IV m' n' * (dn d : Int)).natAbs < 4294967296 ^ (n'.length + max 1 d.length) := by
    rw [Int.natAbs_mul, Nat.pow_add, Int.natAbs_natCast]
    exact Nat.mul_lt_mul'' (IV_natAbs_lt h'.wn) (dn_lt h.wd)
  obtain ⟨p1, p2⟩ := wI_len _ _ hp
  obtain ⟨q1, q2⟩ := wI_len _ _ hq
  have hC := wCompare_ev (m := (wI (IV m n * (dn d' : Int))).1) (m' := (wI (IV m' n' * (dn d : Int))).1) p1 q1 (by omega) (by omega)
  rw [IV_wI, IV_wI] at hC
  refine Ev.bind (rOver_ev h h') (Ev.bind (rOver_ev h' h) (Ev.bind hC (ev_is (Ev.now _) ?_)))
  unfold cmpI cmpQ RV
  have e1 : (mkRat (IV m n) (dn d) < mkRat (IV m' n') (dn d')) = (IV m n * (dn d' : Int) < IV m' n' * (dn d : Int)) := propext (mkRat_lt (dn_ne d) (dn_ne d'))
  have e2 : (mkRat (IV m n) (dn d) = mkRat (IV m' n') (dn d')) = (IV m n * (dn d' : Int) = IV m' n' * (dn d : Int)) := propext (Rat.mkRat_eq_iff (dn_ne d) (dn_ne d'))
  simp only [e1, e2]
theorem mkRat_num_sign {z : Int} {d : Nat} (hd : d ≠ 0) : (0 < mkRat z d ↔ 0 < z) := by
  have h := mkRat_lt (n1 := 0) (d1 := 1) (n2 := z) (d2 := d) (by decide) hd
  have e : mkRat 0 1 = 0 := by decide
  rw [e] at h
  rw [h]
  omega
theorem rSign_ev {m : Bool} {n d : List Int} (h : RW n d) : Ev (fun k => rat_Sign.f k m n d) (IV m n).sign := by
  unfold rat_Sign.f
  refine Ev.bind (wSign_ev (m := m) h.wn (by have := h.ln; omega)) (ev_is (Ev.now _) ?_)
  exact wSign_eq m n
theorem rSign_pos (m : Bool) (n d : List Int) : decide (0 < (IV m n).sign) = decide (0 < RV m n d) := by
  rw [decide_eq_decide]
  unfold RV
  rw [mkRat_num_sign (dn_ne d)]
  exact Int.sign_pos_iff
theorem rInt_ev (n : Int) (h0 : -9223372036854775808 < n) (h1 : n ≤ 9223372036854775807) : Ev (fun k => rat_Int.f k n) (rQ (n : Rat)) := by
  unfold rat_Int.f whole_Of.f
  have hx : mx n (wrap64 (-n)) = (n.natAbs : Int) := by
    rw [z24q (by omega) (by omega)]
    unfold mx
    split <;> omega
  have hu : IntKind.u64.wrap (mx n (wrap64 (-n))) = (n.natAbs : Int) := by rw [hx]; exact z22q (by omega) (by omega)
  have hO := Of_ev (n := (n.natAbs : Int)) (by omega) (by omega)
  rw [show ((n.natAbs : Int)).toNat = n.natAbs by omega] at hO
  have hlen : (dg n.natAbs).length ≤ 2 := z19q.2 (by omega)
  have hMk := wMake_ev (m := decide (n < 0)) (W32_dg n.natAbs) (by omega)
  rw [wMake_eq] at hMk
  have hO1 := Of_ev (n := 1) (by omega) (by omega)
  have hiv : IV (decide (n < 0)) (dg n.natAbs) = n := IV_wI n
  rw [hiv] at hMk
  have h1l : (dg (Int.toNat 1)).length ≤ 1 := z19q.2 (by decide)
  have hM := rMake_ev (m := (wI n).1) (n := (wI n).2) (d := dg (Int.toNat 1)) ⟨W32_dg _, W32_dg _, by show (dg n.natAbs).length ≤ _; omega, by omega⟩
  simp only [hu]
  refine Ev.bind (Ev.bind hO (Ev.bind hMk (Ev.now _))) (Ev.bind hO1 (ev_is (Ev.bind hM (Ev.now _)) ?_))
  have e : RV (wI n).1 (wI n).2 (dg (Int.toNat 1)) = (n : Rat) := by
    unfold RV
    rw [IV_wI, dn_dg (by decide)]
    show mkRat n 1 = (n : Rat)
    rw [Rat.mkRat_one]
  rw [e]
def sq (q : Rat) : Nat := max (dg q.num.natAbs).length (dg q.den).length
theorem RW_rQ {q : Rat} (h : sq q ≤ 1073741824) : RW (rQ q).2.1 (rQ q).2.2 := ⟨W32_dg _, W32_dg _, Nat.le_trans (Nat.le_max_left _ _) h, Nat.le_trans (Nat.le_max_right _ _) h⟩
theorem sq_mkRat {z : Int} {d m : Nat} (hd : d ≠ 0) (h1 : z.natAbs < 4294967296 ^ m) (h2 : d < 4294967296 ^ m) : sq (mkRat z d) ≤ m := by
  unfold sq
  rw [Rat.num_mkRat, Rat.den_mkRat, if_neg hd, if_neg hd]
  refine Nat.max_le.2 ⟨z19q.2 (Nat.lt_of_le_of_lt ?_ h1), z19q.2 (Nat.lt_of_le_of_lt (Nat.div_le_self _ _) h2)⟩
  exact Int.natAbs_ediv_le_natAbs _ _
theorem sq_lt (q : Rat) : q.num.natAbs < 4294967296 ^ sq q ∧ q.den < 4294967296 ^ sq q := ⟨z19q.1 (Nat.le_max_left _ _), z19q.1 (Nat.le_max_right _ _)⟩
theorem sq_add (x y : Rat) : sq (x + y) ≤ sq x + sq y + 1 := by
  have e : x + y = mkRat (x.num * y.den + y.num * x.den) (x.den * y.den) := by
    have := Rat.mkRat_add_mkRat x.num y.num x.den_nz y.den_nz
    rw [Rat.mkRat_self, Rat.mkRat_self] at this
    exact this
  rw [e]
  obtain ⟨a1, a2⟩ := sq_lt x
  obtain ⟨b1, b2⟩ := sq_lt y
  have hd : x.den * y.den < 4294967296 ^ (sq x + sq y) := by rw [Nat.pow_add]; exact Nat.mul_lt_mul'' a2 b2
  refine sq_mkRat (Nat.mul_ne_zero x.den_nz y.den_nz) ?_ (Nat.lt_of_lt_of_le hd (Nat.pow_le_pow_right (by omega) (by omega)))
  have h1 : (x.num * (y.den : Int)).natAbs < 4294967296 ^ (sq x + sq y) := by rw [Int.natAbs_mul, Int.natAbs_natCast, Nat.pow_add]; exact Nat.mul_lt_mul'' a1 b2
  have h2 : (y.num * (x.den : Int)).natAbs < 4294967296 ^ (sq x + sq y) := by rw [Int.natAbs_mul, Int.natAbs_natCast, Nat.pow_add, Nat.mul_comm]; exact Nat.mul_lt_mul'' a2 b1
  have h3 := Int.natAbs_add_le (x.num * (y.den : Int)) (y.num * (x.den : Int))
  rw [Nat.pow_succ]
  omega
theorem sq_RV {m : Bool} {n d : List Int} {b : Nat} (h : RW n d) (hb : 1 ≤ b) (hn : n.length ≤ b) (hd : d.length ≤ b) : sq (RV m n d) ≤ b := by
  refine sq_mkRat (dn_ne d) (Nat.lt_of_lt_of_le (IV_natAbs_lt h.wn) (Nat.pow_le_pow_right (by omega) hn)) (Nat.lt_of_lt_of_le (dn_lt h.wd) (Nat.pow_le_pow_right (by omega) (by omega)))
theorem sq_int (n : Int) (h : n.natAbs < 4294967296 ^ 2) : sq (n : Rat) ≤ 2 := by
  have e : (n : Rat) = mkRat n 1 := by rw [Rat.mkRat_one]
  rw [e]
  exact sq_mkRat (by decide) h (by decide)
section
variable (wd : Nat → Nat) (v : Nat → Rat)
def ksVal : List Nat → Nat → Rat
  | [], _ => 0
  | k :: qs, w => if wd k ≤ w ∧ ksVal qs w < ksVal qs (w - wd k) + v k then ksVal qs (w - wd k) + v k else ksVal qs w
def ksCond : List Nat → Nat → Nat → Bool
  | qs, k, w => decide (wd k ≤ w ∧ ksVal wd v qs w < ksVal wd v qs (w - wd k) + v k)
def ksTk : List Nat → Nat → List Nat
  | [], _ => []
  | k :: qs, w => if ksCond wd v qs k w then k :: ksTk qs (w - wd k) else ksTk qs w
def sumV : List Nat → Rat
  | [] => 0
  | k :: s => v k + sumV s
def sumW : List Nat → Nat
  | [] => 0
  | k :: s => wd k + sumW s
theorem ksTk_sub (qs : List Nat) : ∀ w, (ksTk wd v qs w).Sublist qs := by
  induction qs with
  | nil => intro w; exact List.Sublist.refl _
  | cons k qs ih =>
    intro w
    unfold ksTk
    split
    · exact (ih _).cons_cons _
    · exact (ih _).cons _
theorem ksVal_opt {s qs : List Nat} (h : s.Sublist qs) : ∀ w, sumW wd s ≤ w → sumV v s ≤ ksVal wd v qs w := by
  induction h with
  | slnil => intro w _; exact Rat.le_refl
  | cons k h ih =>
    intro w hw
    have := ih w hw
    unfold ksVal
    split <;> grind
  | cons_cons k h ih =>
    intro w hw
    simp only [sumW] at hw
    have := ih (w - wd k) (by omega)
    have hk : wd k ≤ w := by omega
    simp only [sumV]
    unfold ksVal
    split <;> grind
def ksPick (T : Nat → Nat) : List Nat → List Nat
  | [] => []
  | k :: ks => (if 0 < v k then List.replicate (T k) k else []) ++ ksPick T ks
theorem ksPick_sub {T N : Nat → Nat} : ∀ ks : List Nat, (∀ k ∈ ks, T k ≤ N k) → (ksPick v T ks).Sublist (ksPick v N ks)
  | [], _ => List.Sublist.refl _
  | k :: ks, h => by
    unfold ksPick
    refine List.Sublist.append ?_ (ksPick_sub ks (fun j hj => h j (List.mem_cons_of_mem _ hj)))
    split
    · exact List.replicate_sublist_replicate _ |>.2 (h k List.mem_cons_self)
    · exact List.Sublist.refl _
theorem sumV_append (a b : List Nat) : sumV v (a ++ b) = sumV v a + sumV v b := by
  induction a with
  | nil => simp [sumV, Rat.zero_add]
  | cons k a ih => simp only [List.cons_append, sumV, ih]; grind
theorem sumW_append (a b : List Nat) : sumW wd (a ++ b) = sumW wd a + sumW wd b := by
  induction a with
  | nil => simp [sumW]
  | cons k a ih => simp only [List.cons_append, sumW, ih]; omega
theorem sumV_reverse (a : List Nat) : sumV v a.reverse = sumV v a := by
  induction a with
  | nil => rfl
  | cons k a ih => rw [List.reverse_cons, sumV_append, ih]; simp only [sumV]; grind
theorem sumW_reverse (a : List Nat) : sumW wd a.reverse = sumW wd a := by
  induction a with
  | nil => rfl
  | cons k a ih => rw [List.reverse_cons, sumW_append, ih]; simp only [sumW]; omega
theorem sumV_replicate (n k : Nat) : sumV v (List.replicate n k) = (n : Rat) * v k := by
  induction n with
  | zero => simp [sumV, Rat.zero_mul]
  | succ n ih => 
    rw [List.replicate_succ]; simp only [sumV, ih]
    have : ((n + 1 : Nat) : Rat) = (n : Rat) + 1 := by grind
    rw [this]; grind
theorem sumW_replicate (n k : Nat) : sumW wd (List.replicate n k) = n * wd k := by
  induction n with
  | zero => simp [sumW]
  | succ n ih => rw [List.replicate_succ]; simp only [sumW, ih]; rw [Nat.succ_mul]; omega
def allV (T : Nat → Nat) : List Nat → Rat
  | [] => 0
  | k :: ks => (T k : Rat) * v k + allV T ks
def allW (T : Nat → Nat) : List Nat → Nat
  | [] => 0
  | k :: ks => T k * wd k + allW T ks
theorem mul_nonpos_rat {n : Nat} {q : Rat} (h : q ≤ 0) : (n : Rat) * q ≤ 0 := by
  induction n with
  | zero => grind
  | succ n ih =>
    have : ((n + 1 : Nat) : Rat) = (n : Rat) + 1 := by grind
    rw [this]; grind
theorem ksPick_v {T : Nat → Nat} (ks : List Nat) : allV v T ks ≤ sumV v (ksPick v T ks) := by
  induction ks with
  | nil => exact Rat.le_refl
  | cons k ks ih =>
    unfold ksPick allV
    rw [sumV_append]
    split
    · rw [sumV_replicate]; grind
    · have h : v k ≤ 0 := by grind
      have := mul_nonpos_rat (n := T k) h
      simp only [sumV]
      grind
theorem ksPick_w {T : Nat → Nat} (ks : List Nat) : sumW wd (ksPick v T ks) ≤ allW wd T ks := by
  induction ks with
  | nil => exact Nat.le_refl _
  | cons k ks ih =>
    unfold ksPick allW
    rw [sumW_append]
    split
    · rw [sumW_replicate]; omega
    · simp only [sumW]; omega
theorem ks_best {T N : Nat → Nat} {ks : List Nat} {w : Nat} (hN : ∀ k ∈ ks, T k ≤ N k) (hw : allW wd T ks ≤ w) : allV v T ks ≤ ksVal wd v (ksPick v N ks).reverse w := by
  refine Rat.le_trans (ksPick_v v ks) ?_
  rw [← sumV_reverse]
  refine ksVal_opt wd v ((List.reverse_sublist).2 (ksPick_sub v ks hN)) w ?_
  rw [sumW_reverse]
  exact Nat.le_trans (ksPick_w wd v ks) hw
end
section
variable (wd : Nat → Nat) (v : Nat → Rat)
theorem ksPick_mem {N : Nat → Nat} {x : Nat} : ∀ ks : List Nat, x ∈ ksPick v N ks → x ∈ ks ∧ 0 < v x
  | [], h => by simp [ksPick] at h
  | k :: ks, h => by
    unfold ksPick at h
    rcases List.mem_append.1 h with h | h
    · split at h
      · rename_i hv
        obtain rfl := List.eq_of_mem_replicate h
        exact ⟨List.mem_cons_self, hv⟩
      · cases h
    · obtain ⟨h1, h2⟩ := ksPick_mem ks h
      exact ⟨List.mem_cons_of_mem _ h1, h2⟩
end
section
attribute [local go_sem] Oper.semAt_some
def pickB (pos : Nat → Bool) (N : Nat → Nat) : List Nat → List Nat
  | [] => []
  | k :: ks => (if pos k = true then List.replicate (N k) k else []) ++ pickB pos N ks
theorem pickB_append (pos : Nat → Bool) (N : Nat → Nat) (a b : List Nat) : pickB pos N (a ++ b) = pickB pos N a ++ pickB pos N b := by
  induction a with
  | nil => rfl
  | cons x a ih => simp only [List.cons_append, pickB, ih, List.append_assoc]
theorem pickB_succ (pos : Nat → Bool) (N : Nat → Nat) (i : Nat) : pickB pos N (List.range (i + 1)) = pickB pos N (List.range i) ++ (if pos i = true then List.replicate (N i) i else []) := by
  rw [List.range_succ, pickB_append]
  simp [pickB]
theorem pickB_le (pos : Nat → Bool) (N : Nat → Nat) {i m : Nat} (h : i ≤ m) : (pickB pos N (List.range i)).length ≤ (pickB pos N (List.range m)).length := by
  obtain ⟨d, rfl⟩ : ∃ d, m = i + d := ⟨m - i, by omega⟩
  rw [List.range_add, pickB_append, List.length_append]
  omega
def needN (zs : List S46) (i : Nat) : Nat := (rd_T46 zs (i : Int)).f1.toNat
def SignsAt (ls : List S39) (pos : Nat → Bool) (m : Nat) : Prop := ∀ i, i < m → ∃ (k : Nat) (s : Int), rat_Sign.f k (rd_T39 ls (i : Int)).f0.f0 (rd_T39 ls (i : Int)).f0.f1 (rd_T39 ls (i : Int)).f1 = some s ∧ decide (0 < s) = pos i
def KpP (n₀ Bs Bw : Nat) (W W' : World) : Prop := KeptB n₀ Bs W W' ∧ W'.heap[Bw]? = W.heap[Bw]? ∧ Tkeep 46 W W'
theorem KpP.t {n₀ Bs Bw : Nat} {A B C : World} (h : KpP n₀ Bs Bw A B) (k : KpP n₀ Bs Bw B C) : KpP n₀ Bs Bw A C := ⟨h.1.t k.1, k.2.1.trans h.2.1, h.2.2.trans k.2.2⟩
theorem KpP.r (n₀ Bs Bw : Nat) (A : World) : KpP n₀ Bs Bw A A := ⟨KeptB.r _ _ _, rfl, Tkeep.refl _ _⟩
theorem KpP.b {n B B' : Nat} {w : World} (hn : n ≤ w.heap.size) (hB : B < w.heap.size) (hB' : B' < w.heap.size) (W : World) (l : Nat) (o o' : Obj) (hl : w.heap.size ≤ l) (h : W.heap[l]? = some o) (h1 : o.isCells = false) (h2 : o.isWalk = false) : KpP n B B' W (W.putObj l o') :=
  ⟨KeptB.b hn hB W l o o' hl h h1 h2, World.putObj_heap_other (by omega), Tkeep.put h h1⟩
theorem KpP.below {n B B' : Nat} {W W' : World} (h : Below W.heap.size W W') (h1 : n ≤ W.heap.size) (h2 : B < W.heap.size) (h3 : B' < W.heap.size) : KpP n B B' W W' := ⟨KeptB.below h h1 h2, h.block _ h3, Tkeep.below h⟩
theorem box1_cell {W : World} {b : Nat} {x : Value} {t : TypeId} (h : W.heap[b]? = some (.cells #[x] t (0, 0))) : W.cell? ⟨b, 0, none⟩ = some x := (z04q h 0).trans rfl
set_option maxHeartbeats 8000000 in
theorem knap_pieces1.in_ (n : Nat) (hn : 1 ≤ n) (l Bs Bw : Nat) (a : Int) (A : Option Addr) (cap : Nat) (zs : List S46) (A' : Option Addr) (cap' : Nat) (ls : List S39) (pos : Nat → Bool) (w0 : World)
    (hI : Kd.C k46 w0 A zs.length zs) (hI' : Kd.C k39 w0 A' ls.length ls) (hall : zs.all itemB = true) (hlen : zs.length = ls.length) (hsg : SignsAt ls pos ls.length)
    (J Jx : List (Fin zs.length) → World → Prop) (W : World) (hJ : AbidesFrom W.heap.size J)
    (hY : ∀ pre (x : Fin zs.length) W1, J pre W1 → pre.length < (pickB pos (needN zs) (List.range zs.length)).length → YieldAt Fence.wide (n - 1) Try.prog l #[.int .i64 (x.1 : Int)] W1 fun e W' =>
      (e = .returned (.bool true) ∧ J (pre ++ [x]) W' ∧ KpP w0.heap.size Bs Bw W1 W') ∨ (e = .returned (.bool false) ∧ Jx (pre ++ [x]) W'))
    (hB : Below w0.heap.size w0 W) (hBs : W.heap[Bs]? = some (.cells #[.int .i64 a, .slice A zs.length cap] 24 (0, 0))) (hBw : W.heap[Bw]? = some (.cells #[.slice A' ls.length cap'] 25 (0, 0))) (h0 : J [] W) :
    CallsIn Fence.wide n Try.prog 39 #[.func (.yield l) #[] #[], .pointer (some ⟨Bs, 0, none⟩), .pointer (some ⟨Bw, 0, none⟩)] W (SeqPost (fun ys => ys.map Fin.val = pickB pos (needN zs) (List.range zs.length)) J (fun _ => True) Jx) := by
  have HI := Aside0.mk hI
  have HI' := Aside0.mk hI'
  have HBS := Aside0.mk hBs
  have HBW := Aside0.mk hBw
  have HB := Aside0.mk hB
  have HJ := Aside0.mk hJ
  have HSG := Aside0.mk hsg
  have HLEN : Hid (zs.length = ls.length) := hlen
  have HALL : Hid (zs.all itemB = true) := hall
  have hzl : zs.length ≤ 9223372036854775807 := hI.2.1
  obtain ⟨c0, c1⟩ := z26q hBs
  have H1 := Aside0.mk h0
  clear hI hI' hBs hBw hB hJ hsg hlen hall h0 c0
  refine callsIn_of_wp Try.func39 rfl trivial ?_ rfl
  simp only [Try.ntmps39, List.size_toArray, List.length_cons, List.length_nil, Nat.reduceAdd, Nat.reduceSub, Array.replicate_succ, Array.replicate_zero, List.push_toArray, List.append_toArray, List.nil_append, List.cons_append]
  gi_wp2
  gi_loopw [9] (fun s9 wr => ∃ (i : Nat) (pre : List (Fin zs.length)), s9 = .int .i64 (i : Int) ∧ i ≤ zs.length ∧ Aside0 (pre.map Fin.val = pickB pos (needN zs) (List.range i)) ∧ Aside0 (J pre wr) ∧ Aside0 (KpP w0.heap.size Bs Bw W wr))
    (fun s9 _ => zs.length - (intOf s9).toNat)
  case atStart => exact ⟨0, [], rfl, Nat.zero_le _, ⟨rfl⟩, H1, ⟨KpP.r _ _ _ _⟩⟩
  case round =>
    obtain ⟨i, pre, rfl, hil, hpre, hJs, hK⟩ := hrel
    by_cases hlt : i < zs.length
    · have hltz : (i : Int) < (zs.length : Int) := by omega
      obtain ⟨ad, e0, hx0, hx1⟩ := at_T46 (Kd.C_below HI.out (HB.out.trans hK.out.1.1)) (i : Int) (by omega) (by omega)
      cases e0
      rw [show ((i : Int)).toNat = i from rfl] at hx0 hx1
      obtain ⟨y, hy⟩ : ∃ y, rd_T46 zs (i : Int) = y := ⟨_, rfl⟩
      rw [hy] at hx0 hx1
      have hyb : itemB y = true := by rw [← hy]; exact item_at HALL.out hlt
      have hyb2 := of_decide_eq_true hyb
      obtain ⟨yf, hyf⟩ : ∃ f : Nat, y.f1 = (f : Int) := ⟨y.f1.toNat, by omega⟩
      have hyf2 : yf ≤ 1024 := by omega
      have HN : Hid (needN zs i = yf) := by
        show (rd_T46 zs (i : Int)).f1.toNat = yf
        rw [hy, hyf]
        rfl
      rw [hyf] at hx1
      clear hy hyb hyb2 hyf
      rename World => wo
      have HX : Aside0 ((wo.alloc (.cells #[.int .i64 y.f0, .int .i64 yf] 46)).heap[wo.heap.size]? = some (.cells #[.int .i64 y.f0, .int .i64 yf] 46 (0, 0))) := ⟨World.alloc_heap_new wo _⟩
      have HXB : Aside0 (Below wo.heap.size wo (wo.alloc (.cells #[.int .i64 y.f0, .int .i64 yf] 46))) := ⟨(Below.refl _ wo).alloc (Nat.le_refl _) _⟩
      gi_wp2
      gi_loopw [16] (fun s16 wr2 => ∃ (j : Nat) (pre2 : List (Fin zs.length)), s16 = .int .i64 (j : Int) ∧ j ≤ yf ∧ Aside0 (pre2.map Fin.val = pickB pos (needN zs) (List.range i) ++ (if pos i = true then List.replicate j i else [])) ∧ Aside0 (J pre2 wr2) ∧ Aside0 (KpP w0.heap.size Bs Bw W wr2))
        (fun s16 _ => yf - (intOf s16).toNat)
      case atStart => exact ⟨0, pre, rfl, Nat.zero_le _, ⟨by rw [hpre.out]; simp⟩, ⟨AbidesFrom.below HJ.out hJs.out HXB.out⟩, ⟨hK.out.t (KpP.below HXB.out (Nat.le_trans HB.out.size hK.out.1.1.size) (Nat.lt_of_lt_of_le (blk_lt HBS.out) hK.out.1.1.size) (Nat.lt_of_lt_of_le (blk_lt HBW.out) hK.out.1.1.size))⟩⟩
      case round =>
        obtain ⟨j, pre2, rfl, hjl, hpre2, hJ2, hK2⟩ := hrel
        by_cases hjt : j < yf
        · have hjt' : (j : Int) < (yf : Int) := by omega
          have cw := box1_cell (hK2.out.2.1.trans HBW.out)
          obtain ⟨ad', A1, c1', A2, c2', e0, hy0, hy1, hy2, hl1, hC1, hl2, hC2⟩ := at_T39 (Kd.C_below HI'.out (HB.out.trans hK2.out.1.1)) (i : Int) (by omega) (by have := HLEN.out; omega)
          cases e0
          rw [show ((i : Int)).toNat = i from rfl] at hy0 hy1 hy2
          obtain ⟨ks, sg, hsg, hpos⟩ := HSG.out i (by have := HLEN.out; omega)
          obtain ⟨q, hq⟩ : ∃ q, rd_T39 ls (i : Int) = q := ⟨_, rfl⟩
          rw [hq] at hy0 hy1 hy2 hl1 hC1 hl2 hC2 hsg
          have HS : Hid (rat_Sign.f ks q.f0.f0 q.f0.f1 q.f1 = some sg) := hsg
          have HC1 := Aside0.mk (And.intro hl1 hC1)
          have HC2 := Aside0.mk (And.intro hl2 hC2)
          have hiL : (i : Int) < (ls.length : Int) := by have := HLEN.out; omega
          have hi0 : (0 : Int) ≤ (i : Int) := Int.natCast_nonneg _
          clear hl1 hC1 hl2 hC2 hsg hq
          cases hp : pos i with
          | true =>
            rw [hp] at hpos
            have hpos2 : 0 < sg := of_decide_eq_true hpos
            have HP : Hid (pos i = true) := hp
            have hq2 : pre2.length < (pickB pos (needN zs) (List.range zs.length)).length := by
              have h1 := hpre2.out
              rw [hp, if_pos rfl] at h1
              have h2 := congrArg List.length h1
              have h3 := pickB_le pos (needN zs) (i := i + 1) (m := zs.length) hlt
              rw [pickB_succ, HP.out, if_pos rfl, HN.out] at h3
              simp only [List.length_map, List.length_append, List.length_replicate] at h2 h3
              omega
            have HQ2 := Aside0.mk hq2
            clear hq2 hp
            gi_wp2_with (first | (refine ⟨trivial, ?_⟩; gi_at_call 40; refine (callsIn_wide.2 (rat_Sign.calls ks q.f0.f0 A1 c1' q.f0.f1 A2 c2' q.f1 sg wr HC1.out.2 HC1.out.1 HC2.out.2 HC2.out.1 HS.out)).mono ?_; rintro e w1 ⟨rfl, hb1⟩; have HB1 := Aside0.mk hb1; clear hb1; obtain ⟨fn, tmps, assign, body, hy, hR⟩ := hY pre2 ⟨i, hlt⟩ w1 (AbidesFrom.below HJ.out hJ2.out HB1.out) HQ2.out; dsimp only at hy; have HRR := Aside0.mk hR; clear hR))
            have HK1 : Aside0 (KpP w0.heap.size Bs Bw W w1) := ⟨hK2.out.t (KpP.below HB1.out (Nat.le_trans HB.out.size hK2.out.1.1.size) (Nat.lt_of_lt_of_le (blk_lt HBS.out) hK2.out.1.1.size) (Nat.lt_of_lt_of_le (blk_lt HBW.out) hK2.out.1.1.size))⟩
            refine HRR.out.mono ?_
            rintro e W3 (⟨rfl, hJ3, hk3⟩ | ⟨rfl, hJx3⟩)
            · have HJ3 := Aside0.mk hJ3
              have HK3 := Aside0.mk hk3
              clear hJ3 hk3
              gi_wp2
              go_roundw
              case rel => exact ⟨j + 1, pre2 ++ [⟨i, hlt⟩], by go_num, by omega, ⟨by rw [List.map_append, hpre2.out, HP.out]; simp [List.replicate_succ', List.append_assoc]⟩, HJ3, ⟨HK1.out.t HK3.out⟩⟩
              case measure => simp [intOf]; omega
            · have HJ3 := Aside0.mk hJx3
              clear hJx3
              gi_wp2
              refine bodyPost_ret (results_none rfl _ _ _) rfl ?_
              exact ⟨⟨_, rfl⟩, .inr ⟨_, trivial, HJ3.out⟩⟩
          | false =>
            rw [hp] at hpos
            have hpos2 : ¬ 0 < sg := of_decide_eq_false hpos
            have HP : Hid (pos i = false) := hp
            clear hp
            gi_wp2_with (first | (refine ⟨trivial, ?_⟩; gi_at_call 40; refine (callsIn_wide.2 (rat_Sign.calls ks q.f0.f0 A1 c1' q.f0.f1 A2 c2' q.f1 sg wr HC1.out.2 HC1.out.1 HC2.out.2 HC2.out.1 HS.out)).mono ?_; rintro e w1 ⟨rfl, hb1⟩; have HB1 := Aside0.mk hb1; clear hb1))
            have HK1 : Aside0 (KpP w0.heap.size Bs Bw W w1) := ⟨hK2.out.t (KpP.below HB1.out (Nat.le_trans HB.out.size hK2.out.1.1.size) (Nat.lt_of_lt_of_le (blk_lt HBS.out) hK2.out.1.1.size) (Nat.lt_of_lt_of_le (blk_lt HBW.out) hK2.out.1.1.size))⟩
            refine ⟨fun _ h => (by cases h), ?_⟩
            gi_wp2
            go_roundw
            case rel => exact ⟨j + 1, pre2, by go_num, by omega, ⟨by rw [hpre2.out, HP.out]; simp⟩, ⟨AbidesFrom.below HJ.out hJ2.out HB1.out⟩, HK1⟩
            case measure => simp [intOf]; omega
        · have hjt' : ¬ (j : Int) < (yf : Int) := by omega
          have HP2 : Aside0 (pre2.map Fin.val = pickB pos (needN zs) (List.range (i + 1))) := ⟨by
            rw [hpre2.out, pickB_succ, HN.out, show j = yf by omega]⟩
          gi_wp2
          go_roundw
          case rel => exact ⟨i + 1, pre2, by go_num, by omega, HP2, hJ2, hK2⟩
          case measure => simp [intOf]; omega
    · have HP2 : Aside0 (pre.map Fin.val = pickB pos (needN zs) (List.range zs.length)) := ⟨by
        rw [hpre.out, show i = zs.length by omega]⟩
      gi_wp2
      go_end0
      exact ⟨⟨_, rfl⟩, .inl ⟨pre, HP2.out, hJs.out⟩⟩
theorem knap_pieces.in_ (n : Nat) (a : Int) (A : Option Addr) (l cap : Nat) (A' : Option Addr) (l' cap' : Nat) (w : World) :
    CallsIn Fence.wide n Try.prog 22 #[.agg #[.int .i64 a, .slice A l cap], .slice A' l' cap'] w fun e w' => e = .returned (.func (.func 39) #[] #[.pointer (some ⟨w.heap.size, 0, none⟩), .pointer (some ⟨w.heap.size + 1, 0, none⟩)]) ∧ w' = (w.alloc (.cells #[.int .i64 a, .slice A l cap] 24)).alloc (.cells #[.slice A' l' cap'] 25) := by
  refine callsIn_of_wp Try.func22 rfl trivial ?_ rfl
  simp only [Try.ntmps22, List.size_toArray, List.length_cons, List.length_nil, Nat.reduceAdd, Nat.reduceSub, Array.replicate_succ, Array.replicate_zero, List.push_toArray, List.append_toArray, List.nil_append, List.cons_append]
  gi_wp2
  go_ret
  exact ⟨rfl, rfl⟩
theorem knap_pieces.stops (n : Nat) (hn : 1 ≤ n) (Bs Bw : Nat) (a : Int) (A : Option Addr) (cap : Nat) (zs : List S46) (A' : Option Addr) (cap' : Nat) (ls : List S39) (pos : Nat → Bool) (w0 w : World)
    (hI : Kd.C k46 w0 A zs.length zs) (hI' : Kd.C k39 w0 A' ls.length ls) (hall : zs.all itemB = true) (hlen : zs.length = ls.length) (hsg : SignsAt ls pos ls.length)
    (hB : Below w0.heap.size w0 w) (hBs : w.heap[Bs]? = some (.cells #[.int .i64 a, .slice A zs.length cap] 24 (0, 0))) (hBw : w.heap[Bw]? = some (.cells #[.slice A' ls.length cap'] 25 (0, 0))) :
    SeqStopsK Fence.wide n Try.prog 39 #[.pointer (some ⟨Bs, 0, none⟩), .pointer (some ⟨Bw, 0, none⟩)] (fun x : Fin zs.length => #[Value.int .i64 (x.1 : Int)]) (KpP w0.heap.size Bs Bw)
      (fun ys => ys.map Fin.val = pickB pos (needN zs) (List.range zs.length)) (fun _ => True) (pickB pos (needN zs) (List.range zs.length)).length w := fun l J Jx W hW hJ _ hY h0 =>
  knap_pieces1.in_ n hn l Bs Bw a A cap zs A' cap' ls pos w0 hI hI' hall hlen hsg J Jx W hJ hY (hB.trans (hW.mono hB.size)) (z09q hBs hW) (z09q hBw hW) h0
end
section
def toS (q : Rat) : S39 := ⟨⟨(rQ q).1, (rQ q).2.1⟩, (rQ q).2.2⟩
def vS (x : S39) : Rat := RV x.f0.f0 x.f0.f1 x.f1
theorem vS_toS (q : Rat) : vS (toS q) = q := RV_rQ q
def goodS (x : S39) : Bool := W32b x.f0.f1 && W32b x.f1 && decide (x.f0.f1.length ≤ 3) && decide (x.f1.length ≤ 3)
theorem goodS_RW {x : S39} (h : goodS x = true) : RW x.f0.f1 x.f1 ∧ x.f0.f1.length ≤ 3 ∧ x.f1.length ≤ 3 := by
  unfold goodS at h
  simp only [Bool.and_eq_true, decide_eq_true_eq] at h
  exact ⟨⟨W32b_iff.1 h.1.1.1, W32b_iff.1 h.1.1.2, by omega, by omega⟩, h.1.2, h.2⟩
theorem goodS_sq {x : S39} (h : goodS x = true) : sq (vS x) ≤ 3 := sq_RV (goodS_RW h).1 (by omega) (goodS_RW h).2.1 (goodS_RW h).2.2
theorem toS_RW {q : Rat} (h : sq q ≤ 1000) : RW (toS q).f0.f1 (toS q).f1 ∧ (toS q).f0.f1.length ≤ 1000 ∧ (toS q).f1.length ≤ 1000 :=
  ⟨RW_rQ (by omega), Nat.le_trans (Nat.le_max_left _ _) h, Nat.le_trans (Nat.le_max_right _ _) h⟩
theorem add_some {q : Rat} {x : S39} (h : sq q ≤ 1000) (hx : goodS x = true) : ∃ k, rat_Add.f k (toS q).f0.f0 (toS q).f0.f1 (toS q).f1 x.f0.f0 x.f0.f1 x.f1 = some ((toS (q + vS x)).f0.f0, (toS (q + vS x)).f0.f1, (toS (q + vS x)).f1) := by
  obtain ⟨h1, h2, h3⟩ := toS_RW h
  obtain ⟨h4, h5, h6⟩ := goodS_RW hx
  have h7 := (rAdd_ev (m := (toS q).f0.f0) (m' := x.f0.f0) h1 h4 (by omega)).rounds
  rw [show RV (toS q).f0.f0 (toS q).f0.f1 (toS q).f1 = q from vS_toS q] at h7
  exact h7
theorem cmp_some {q r : Rat} (h : sq q ≤ 1000) (h' : sq r ≤ 1000) : ∃ k c, rat_Compare.f k (toS q).f0.f0 (toS q).f0.f1 (toS q).f1 (toS r).f0.f0 (toS r).f0.f1 (toS r).f1 = some c ∧ decide (0 < c) = decide (r < q) := by
  obtain ⟨h1, h2, h3⟩ := toS_RW h
  obtain ⟨h4, h5, h6⟩ := toS_RW h'
  obtain ⟨k, hk⟩ := (rCompare_ev (m := (toS q).f0.f0) (m' := (toS r).f0.f0) h1 h4 (by omega)).rounds
  refine ⟨k, _, hk, ?_⟩
  rw [show RV (toS q).f0.f0 (toS q).f0.f1 (toS q).f1 = q from vS_toS q, show RV (toS r).f0.f0 (toS r).f0.f1 (toS r).f1 = r from vS_toS r, decide_eq_decide]
  unfold cmpQ
  by_cases hlt : q < r
  · rw [if_pos hlt]
    constructor
    · intro h0; omega
    · intro h0; grind
  · rw [if_neg hlt]
    by_cases he : q = r
    · rw [if_pos he]
      constructor
      · intro h0; omega
      · intro h0; grind
    · rw [if_neg he]
      constructor
      · intro _; grind
      · intro _; omega
theorem zero_some : ∃ k, rat_Int.f k 0 = some ((toS 0).f0.f0, (toS 0).f0.f1, (toS 0).f1) := by
  have h := (rInt_ev 0 (by omega) (by omega)).rounds
  rwa [show ((0 : Int) : Rat) = 0 from rfl] at h
theorem signs_all {ls : List S39} (h : ls.all goodS = true) : SignsAt ls (fun i => decide (0 < vS (rd_T39 ls (i : Int)))) ls.length := fun i hi => by
  have hm : goodS (rd_T39 ls (i : Int)) = true := by
    have : rd_T39 ls (i : Int) = ls[i] := by simp [rd_T39, List.getD, hi]
    rw [this]
    exact List.all_eq_true.1 h _ (List.getElem_mem hi)
  obtain ⟨k, hk⟩ := (rSign_ev (m := (rd_T39 ls (i : Int)).f0.f0) (goodS_RW hm).1).rounds
  exact ⟨k, _, hk, rSign_pos _ _ _⟩
theorem good_at {ls : List S39} (h : ls.all goodS = true) {i : Nat} (hi : i < ls.length) : goodS (rd_T39 ls (i : Int)) = true := by
  have : rd_T39 ls (i : Int) = ls[i] := by simp [rd_T39, List.getD, hi]
  rw [this]
  exact List.all_eq_true.1 h _ (List.getElem_mem hi)
theorem sq_ksVal {wd : Nat → Nat} {v : Nat → Rat} (qs : List Nat) (h : ∀ k ∈ qs, sq (v k) ≤ 3) : ∀ w, sq (ksVal wd v qs w) ≤ 4 * qs.length + 1 := by
  induction qs with
  | nil => intro w; exact (by decide : sq 0 ≤ 1)
  | cons k qs ih =>
    intro w
    have ih' := ih (fun j hj => h j (List.mem_cons_of_mem _ hj))
    unfold ksVal
    simp only [List.length_cons]
    split
    · have h1 := sq_add (ksVal wd v qs (w - wd k)) (v k)
      have h2 := ih' (w - wd k)
      have h3 := h k List.mem_cons_self
      omega
    · have := ih' w
      omega
def EL (n : Nat) (U : World) (x : S39) (v1 v2 : Value) : Prop :=
  Kd.R (Kd.int .u32) 96 U n (fun k => some k ≠ v2.ownBlock) v1 x.f0.f1 ∧ Kd.R (Kd.int .u32) 96 U n (fun k => some k ≠ v1.ownBlock) v2 x.f1
theorem R_tkeep {U U' : World} {b : Nat} {ok : Nat → Prop} {v : Value} {xs : List Int} (h : Kd.R (Kd.int .u32) 96 U b ok v xs) (hk : Tkeep 96 U U') : Kd.R (Kd.int .u32) 96 U' b ok v xs := by
  refine Kd.R_mono (ok := fun k => ok k ∧ b ≤ k ∧ k < U.heap.size ∧ ∃ q, q ∈ 96 :: (Kd.int .u32).E ∧ ∃ cells, U.heap[k]? = some (.cells cells q (0, 0))) (Kd.R_step (Kd.R_bound h) ?_) (fun k hk => hk.1)
  rintro k ⟨_, _, _, q, hq, cells, hc⟩ _
  have : q = 96 := by simpa [Kd.int, Kd.scalar] using hq
  subst this
  rw [hk k cells hc, hc]
theorem EL.keep {n : Nat} {U U' : World} {x : S39} {v1 v2 : Value} (h : EL n U x v1 v2) (hk : Tkeep 96 U U') : EL n U' x v1 v2 := ⟨R_tkeep h.1 hk, R_tkeep h.2 hk⟩
def BA (n : Nat) (U : World) (h : Nat) (xs : List S39) : Prop :=
  ∃ CS : Array Value, U.heap[h]? = some (.cells CS 39 (0, 0)) ∧ CS.size = xs.length * 3 ∧ ∀ j x, xs[j]? = some x → ∃ v1 v2, CS[j * 3]? = some (.bool x.f0.f0) ∧ CS[j * 3 + 1]? = some v1 ∧ CS[j * 3 + 2]? = some v2 ∧ EL n U x v1 v2
theorem BA.keep {n : Nat} {U U' : World} {h : Nat} {xs : List S39} (b : BA n U h xs) (hh : U'.heap[h]? = U.heap[h]?) (hk : Tkeep 96 U U') : BA n U' h xs := by
  obtain ⟨CS, h1, h2, h3⟩ := b
  refine ⟨CS, hh.trans h1, h2, fun j x hj => ?_⟩
  obtain ⟨v1, v2, e1, e2, e3, e4⟩ := h3 j x hj
  exact ⟨v1, v2, e1, e2, e3, e4.keep hk⟩
theorem BA.below {n : Nat} {U U' : World} {h : Nat} {xs : List S39} (b : BA n U h xs) (hb : Below U.heap.size U U') : BA n U' h xs := by
  obtain ⟨CS, h1, _⟩ := id b
  exact b.keep (hb.block h (blk_lt h1)) (Tkeep.below hb)
theorem BA.at {n : Nat} {U : World} {h : Nat} {xs : List S39} (b : BA n U h xs) {j : Nat} {x : S39} (hj : xs[j]? = some x) :
    ∃ A1 c1 A2 c2, U.cell? ⟨h, j * 3, none⟩ = some (.bool x.f0.f0) ∧ U.cell? ⟨h, j * 3 + 1, none⟩ = some (.slice A1 x.f0.f1.length c1) ∧ U.cell? ⟨h, j * 3 + 2, none⟩ = some (.slice A2 x.f1.length c2) ∧ EL n U x (.slice A1 x.f0.f1.length c1) (.slice A2 x.f1.length c2) := by
  obtain ⟨CS, h1, h2, h3⟩ := b
  obtain ⟨v1, v2, e1, e2, e3, e4⟩ := h3 j x hj
  obtain ⟨A1, c1, rfl⟩ := Kd.R_slice e4.1
  obtain ⟨A2, c2, rfl⟩ := Kd.R_slice e4.2
  exact ⟨A1, c1, A2, c2, (z04q h1 _).trans e1, (z04q h1 _).trans e2, (z04q h1 _).trans e3, e4⟩
theorem BA.frozen {n : Nat} {U : World} {h : Nat} {xs : List S39} (b : BA n U h xs) (i : Nat) : U.frozen? ⟨h, i, none⟩ = false := by
  obtain ⟨CS, h1, _⟩ := b
  exact z08q h1 i
theorem EL.C {n : Nat} {U : World} {x : S39} {A1 A2 : Option Addr} {c1 c2 : Nat} (e : EL n U x (.slice A1 x.f0.f1.length c1) (.slice A2 x.f1.length c2)) : x.f0.f1.length ≤ c1 ∧ Kd.C (Kd.int .u32) U A1 x.f0.f1.length x.f0.f1 ∧ x.f1.length ≤ c2 ∧ Kd.C (Kd.int .u32) U A2 x.f1.length x.f1 :=
  ⟨(Kd.R_reads' e.1).2.1, R_C e.1, (Kd.R_reads' e.2).2.1, R_C e.2⟩
def set3 (U : World) (h j : Nat) (x y z : Value) : World := ((U.setCell ⟨h, j * 3, none⟩ x).setCell ⟨h, j * 3 + 1, none⟩ y).setCell ⟨h, j * 3 + 2, none⟩ z
theorem Tkeep.set3 {t t' : TypeId} {U : World} {h : Nat} {cs : Array Value} (hh : U.heap[h]? = some (.cells cs t' (0, 0))) (hne : t' ≠ t) (j : Nat) (x y z : Value) : Tkeep t U (set3 U h j x y z) := by
  have h1 := blk_put hh (j * 3) x rfl
  have h2 := blk_put h1 (j * 3 + 1) y rfl
  exact ((Tkeep.set (p := ⟨h, j * 3, none⟩) hh hne x).trans (Tkeep.set (p := ⟨h, j * 3 + 1, none⟩) h1 hne y)).trans (Tkeep.set (p := ⟨h, j * 3 + 2, none⟩) h2 hne z)
theorem set3_other (U : World) {h g : Nat} (hne : g ≠ h) (j : Nat) (x y z : Value) : (set3 U h j x y z).heap[g]? = U.heap[g]? :=
  ((Below.heap_setCell _ ⟨h, j * 3 + 2, none⟩ z g hne).trans (Below.heap_setCell _ ⟨h, j * 3 + 1, none⟩ y g hne)).trans (Below.heap_setCell _ ⟨h, j * 3, none⟩ x g hne)
theorem BA.set {n : Nat} {U : World} {h : Nat} {xs : List S39} (b : BA n U h xs) {j : Nat} (hj : j < xs.length) {x : S39} {v1 v2 : Value} (e : EL n U x v1 v2) : BA n (set3 U h j (.bool x.f0.f0) v1 v2) h (xs.set j x) := by
  obtain ⟨CS, h1, h2, h3⟩ := b
  have hT : Tkeep 96 U (set3 U h j (.bool x.f0.f0) v1 v2) := Tkeep.set3 h1 (by decide) j _ _ _
  refine ⟨_, blk_put (blk_put (blk_put h1 (j * 3) (.bool x.f0.f0) rfl) (j * 3 + 1) v1 rfl) (j * 3 + 2) v2 rfl, by simp [h2], fun i y hi => ?_⟩
  by_cases hij : i = j
  · subst hij
    have : y = x := by simpa [hj] using hi.symm
    subst this
    refine ⟨v1, v2, ?_, ?_, ?_, e.keep hT⟩
    · rw [Array.getElem?_setIfInBounds_ne (by omega), Array.getElem?_setIfInBounds_ne (by omega), Array.getElem?_setIfInBounds_self_of_lt (by omega)]
    · rw [Array.getElem?_setIfInBounds_ne (by omega), Array.getElem?_setIfInBounds_self_of_lt (by simp; omega)]
    · rw [Array.getElem?_setIfInBounds_self_of_lt (by simp; omega)]
  · rw [List.getElem?_set_ne (Ne.symm hij)] at hi
    obtain ⟨u1, u2, e1, e2, e3, e4⟩ := h3 i y hi
    refine ⟨u1, u2, ?_, ?_, ?_, e4.keep hT⟩
    · rw [Array.getElem?_setIfInBounds_ne (by omega), Array.getElem?_setIfInBounds_ne (by omega), Array.getElem?_setIfInBounds_ne (by omega)]; exact e1
    · rw [Array.getElem?_setIfInBounds_ne (by omega), Array.getElem?_setIfInBounds_ne (by omega), Array.getElem?_setIfInBounds_ne (by omega)]; exact e2
    · rw [Array.getElem?_setIfInBounds_ne (by omega), Array.getElem?_setIfInBounds_ne (by omega), Array.getElem?_setIfInBounds_ne (by omega)]; exact e3
def BR (U : World) (g : Nat) (bs : List Bool) : Prop := U.heap[g]? = some (.cells (bs.map Value.bool).toArray 4 (0, 0))
theorem BR.at {U : World} {g : Nat} {bs : List Bool} (b : BR U g bs) {j : Nat} {x : Bool} (h : bs[j]? = some x) : U.cell? ⟨g, j, none⟩ = some (.bool x) := by
  refine (z04q b j).trans ?_
  simp [h]
theorem BR.set {U : World} {g : Nat} {bs : List Bool} (b : BR U g bs) (j : Nat) (x : Bool) : BR (U.setCell ⟨g, j, none⟩ (.bool x)) g (bs.set j x) :=
  blk_put b j (.bool x) (by simp [List.setIfInBounds_toArray, List.map_set])
theorem BR.keep {U U' : World} {g : Nat} {bs : List Bool} (b : BR U g bs) (hk : Tkeep 4 U U') : BR U' g bs := hk g _ b
end
section
attribute [local go_sem] Oper.semAt_some
def wdOf (zs : List S46) (i : Nat) : Nat := (rd_T46 zs (i : Int)).f0.toNat
def vOf (ls : List S39) (i : Nat) : Rat := vS (rd_T39 ls (i : Int))
def piecesOf (zs : List S46) (ls : List S39) : List Nat := ksPick (vOf ls) (needN zs) (List.range zs.length)
def bestQ (a : Int) (zs : List S46) (ls : List S39) : Rat := ksVal (wdOf zs) (vOf ls) (piecesOf zs ls).reverse a.toNat
def bestT (a : Int) (zs : List S46) (ls : List S39) : List Int := (List.range zs.length).map fun j => (((ksTk (wdOf zs) (vOf ls) (piecesOf zs ls).reverse a.toNat).count j : Nat) : Int)
def knap_Best.f (a : Int) (zs : List S46) (ls : List S39) : Option (Bool × List Int × List Int × List Int × Int) :=
  if rightB a zs = false then some (false, [], [], [], 1) else if ls.length ≠ zs.length then some (false, [], [], [], 7) else if 512 < a ∨ 64 < sumN zs then some (false, [], [], [], 4)
  else if ls.all goodS = true then some ((toS (bestQ a zs ls)).f0.f0, (toS (bestQ a zs ls)).f0.f1, (toS (bestQ a zs ls)).f1, bestT a zs ls, 0) else none
def BestPost (w : World) (r1 : Bool) (r2 r3 r4 : List Int) (r5 : Int) (e : Ending) (w' : World) : Prop :=
  ∃ v1_ v2_ v3_ : Value, e = .returned (.tuple #[.agg #[.bool r1, v1_, v2_, v3_], .int .i64 r5]) ∧ Kd.R (Kd.int .u32) 96 w' w.heap.size (fun k_ => some k_ ≠ (v2_ : Value).ownBlock ∧ some k_ ≠ (v3_ : Value).ownBlock) v1_ r2 ∧ Kd.R (Kd.int .u32) 96 w' w.heap.size (fun k_ => some k_ ≠ (v1_ : Value).ownBlock ∧ some k_ ≠ (v3_ : Value).ownBlock) v2_ r3 ∧ Kd.R (Kd.int .i64) 3 w' w.heap.size (fun k_ => some k_ ≠ (v1_ : Value).ownBlock ∧ some k_ ≠ (v2_ : Value).ownBlock) v3_ r4 ∧ Below w.heap.size w w'
theorem BestPost.none (w w' : World) (r5 : Int) (hb : Below w.heap.size w w') : BestPost w false [] [] [] r5 (.returned (.tuple #[.agg #[.bool false, .slice none 0 0, .slice none 0 0, .slice none 0 0], .int .i64 r5])) w' :=
  ⟨_, _, _, rfl, Kd.R_nil _ _ _ _ _, Kd.R_nil _ _ _ _ _, Kd.R_nil _ _ _ _ _, hb⟩
theorem four_boxes (w : World) (a : Int) (A A' : Option Addr) (n c n' c' : Nat) :
    let W := ((w.alloc (.cells #[.int .i64 a, .slice A n c] 24)).alloc (.cells #[.slice A' n' c'] 25)).alloc (.cells #[.bool false, .slice none 0 0, .slice none 0 0, .slice none 0 0] 41)
    W.heap[w.heap.size]? = some (.cells #[.int .i64 a, .slice A n c] 24 (0, 0)) ∧ W.heap[w.heap.size + 1]? = some (.cells #[.slice A' n' c'] 25 (0, 0)) ∧ W.heap[w.heap.size + 1 + 1]? = some (.cells #[.bool false, .slice none 0 0, .slice none 0 0, .slice none 0 0] 41 (0, 0)) ∧ Below w.heap.size w W ∧ W.heap.size = w.heap.size + 3 := by
  intro W
  have h1 := World.alloc_heap_new w (.cells #[.int .i64 a, .slice A n c] 24)
  have h2 := World.alloc_heap_new (w.alloc (.cells #[.int .i64 a, .slice A n c] 24)) (.cells #[.slice A' n' c'] 25)
  have h3 := World.alloc_heap_new ((w.alloc (.cells #[.int .i64 a, .slice A n c] 24)).alloc (.cells #[.slice A' n' c'] 25)) (.cells #[.bool false, .slice none 0 0, .slice none 0 0, .slice none 0 0] 41)
  rw [World.size_alloc] at h2
  rw [World.size_alloc, World.size_alloc] at h3
  exact ⟨z05q (z05q h1 _) _, z05q h2 _, h3, (((Below.refl _ w).alloc (Nat.le_refl _) _).alloc (by simp) _).alloc (by simp; omega) _, by simp [W]⟩
theorem box4_cells {W : World} {b : Nat} {x y z u : Value} {t : TypeId} (h : W.heap[b]? = some (.cells #[x, y, z, u] t (0, 0))) : W.cell? ⟨b, 0, none⟩ = some x ∧ W.cell? ⟨b, 1, none⟩ = some y ∧ W.cell? ⟨b, 2, none⟩ = some z ∧ W.cell? ⟨b, 3, none⟩ = some u ∧ (W.frozen? ⟨b, 0, none⟩ = false ∧ W.frozen? ⟨b, 1, none⟩ = false ∧ W.frozen? ⟨b, 2, none⟩ = false ∧ W.frozen? ⟨b, 3, none⟩ = false) :=
  ⟨(z04q h 0).trans rfl, (z04q h 1).trans rfl, (z04q h 2).trans rfl, (z04q h 3).trans rfl, z08q h 0, z08q h 1, z08q h 2, z08q h 3⟩
def set4 (U : World) (b : Nat) (x y z u : Value) : World := (((U.setCell ⟨b, 0, none⟩ x).setCell ⟨b, 1, none⟩ y).setCell ⟨b, 2, none⟩ z).setCell ⟨b, 3, none⟩ u
theorem set4_heap {U : World} {b : Nat} {x' y' z' u' : Value} {t : TypeId} (h : U.heap[b]? = some (.cells #[x', y', z', u'] t (0, 0))) (x y z u : Value) : (set4 U b x y z u).heap[b]? = some (.cells #[x, y, z, u] t (0, 0)) :=
  blk_put (cs := #[x, y, z, u']) (blk_put (cs := #[x, y, z', u']) (blk_put (cs := #[x, y', z', u']) (blk_put (cs := #[x', y', z', u']) h 0 x rfl) 1 y rfl) 2 z rfl) 3 u rfl
theorem set4_below {w U : World} {b : Nat} (hb : w.heap.size ≤ b) (h : Below w.heap.size w U) (x y z u : Value) : Below w.heap.size w (set4 U b x y z u) :=
  (((h.setCell (p := ⟨b, 0, none⟩) hb x).setCell (p := ⟨b, 1, none⟩) hb y).setCell (p := ⟨b, 2, none⟩) hb z).setCell (p := ⟨b, 3, none⟩) hb u
set_option maxHeartbeats 8000000 in
theorem knap_Best.early (a0_0 : Int) (A0_1 : Option Addr) (c0_1 : Nat) (l0_1 : List (S46)) (A1 : Option Addr) (c1 : Nat) (l1 : List (S39)) (r5 : Int) (w : World) (hr0_1 : Kd.C k46 w A0_1 l0_1.length l0_1) (hc0_1 : l0_1.length ≤ c0_1)
    (h : (rightB a0_0 l0_1 = false ∧ r5 = 1) ∨ (rightB a0_0 l0_1 = true ∧ l1.length ≠ l0_1.length ∧ r5 = 7) ∨ (rightB a0_0 l0_1 = true ∧ l1.length = l0_1.length ∧ 512 < a0_0 ∧ r5 = 4) ∨ (rightB a0_0 l0_1 = true ∧ l1.length = l0_1.length ∧ a0_0 ≤ 512 ∧ 64 < sumN l0_1 ∧ r5 = 4)) :
    Calls Try.prog 11 #[.agg #[.int .i64 a0_0, .slice A0_1 l0_1.length c0_1], .slice A1 l1.length c1] w (BestPost w false [] [] [] r5) := by
  have HR := Aside0.mk hr0_1
  have HC := Aside0.mk hc0_1
  obtain ⟨b2, b3, b4, hb0, hsz⟩ := four_boxes w a0_0 A0_1 A1 l0_1.length c0_1 l1.length c1
  obtain ⟨W, hW⟩ : ∃ W, ((w.alloc (.cells #[.int .i64 a0_0, .slice A0_1 l0_1.length c0_1] 24)).alloc (.cells #[.slice A1 l1.length c1] 25)).alloc (.cells #[.bool false, .slice none 0 0, .slice none 0 0, .slice none 0 0] 41) = W := ⟨_, rfl⟩
  rw [hW] at b2 b3 b4 hb0 hsz
  have B2 := Aside0.mk b2
  have B3 := Aside0.mk b3
  have B4 := Aside0.mk b4
  have HB0 := Aside0.mk hb0
  have HW : Hid (((w.alloc (.cells #[.int .i64 a0_0, .slice A0_1 l0_1.length c0_1] 24)).alloc (.cells #[.slice A1 l1.length c1] 25)).alloc (.cells #[.bool false, .slice none 0 0, .slice none 0 0, .slice none 0 0] 41) = W) := hW
  clear hr0_1 hc0_1 b2 b3 b4 hb0 hsz hW
  have cs0 : W.cell? ⟨w.heap.size, 0, none⟩ = some (.int .i64 a0_0) := (z26q B2.out).1
  have cs1 : W.cell? ⟨w.heap.size, 1, none⟩ = some (.slice A0_1 l0_1.length c0_1) := (z26q B2.out).2
  rcases h with ⟨hr, rfl⟩ | h
  · have HRT : Hid (stock_Right.f a0_0 l0_1 = some false) := by rw [right_f, hr]; rfl
    clear hr
    go_enter Try.func11, Try.ntmps11
    go_upto_region 1 with (fail)
    rw [HW.out]
    go_wp2_with (first
      | (go_at_call 18; (with_reducible refine (stock_Right.calls a0_0 A0_1 c0_1 l0_1 false W (Kd.C_below HR.out HB0.out) HC.out HRT.out).mono ?_); rintro e w1 ⟨rfl, hb1⟩; have HB1 : Aside0 (Below w.heap.size w w1) := ⟨HB0.out.trans (hb1.mono HB0.out.size)⟩; have B41 := Aside0.mk (z09q B4.out hb1); obtain ⟨g0, g1, g2, g3, f0, f1, f2, f3⟩ := box4_cells B41.out; clear hb1))
    refine bodyPost_ret (results_ct rfl _ _ (w.heap.size + 1 + 1) 41 #[.bool false, .slice none 0 0, .slice none 0 0, .slice none 0 0] (0, 0) _ rfl (set4_heap B41.out (.bool false) (.slice none 0 0) (.slice none 0 0) (.slice none 0 0)) Try.underlying41 rfl (by kernel_rfl)) rfl ?_
    exact BestPost.none _ _ _ (set4_below (by omega) HB1.out _ _ _ _)
  rcases h with ⟨hr, hne, rfl⟩ | h
  · have HRT : Hid (stock_Right.f a0_0 l0_1 = some true) := by rw [right_f, hr]; rfl
    have e1 : ((l1.length : Int) == (l0_1.length : Int)) = false := by rw [beq_eq_false_iff_ne]; omega
    have e2 : (l1.length == l0_1.length) = false := by rw [beq_eq_false_iff_ne]; omega
    have e3 : ((l1.length : Int) != (l0_1.length : Int)) = true := by rw [bne, e1]; rfl
    have e4 : (l1.length != l0_1.length) = true := by rw [bne, e2]; rfl
    clear hr
    go_enter Try.func11, Try.ntmps11
    go_upto_region 1 with (fail)
    rw [HW.out]
    go_wp2_with (first
      | (go_at_call 18; (with_reducible refine (stock_Right.calls a0_0 A0_1 c0_1 l0_1 true W (Kd.C_below HR.out HB0.out) HC.out HRT.out).mono ?_); rintro e w1 ⟨rfl, hb1⟩; have HB1 : Aside0 (Below w.heap.size w w1) := ⟨HB0.out.trans (hb1.mono HB0.out.size)⟩; have B21 := Aside0.mk (z09q B2.out hb1); have B31 := Aside0.mk (z09q B3.out hb1); have B41 := Aside0.mk (z09q B4.out hb1); obtain ⟨g0, g1, g2, g3, f0, f1, f2, f3⟩ := box4_cells B41.out; obtain ⟨s0, s1⟩ := z26q B21.out; have s2 := box1_cell B31.out; clear hb1 cs0 cs1))
    refine bodyPost_ret (results_ct rfl _ _ (w.heap.size + 1 + 1) 41 #[.bool false, .slice none 0 0, .slice none 0 0, .slice none 0 0] (0, 0) _ rfl (set4_heap B41.out (.bool false) (.slice none 0 0) (.slice none 0 0) (.slice none 0 0)) Try.underlying41 rfl (by kernel_rfl)) rfl ?_
    exact BestPost.none _ _ _ (set4_below (by omega) HB1.out _ _ _ _)
  have hx : rightB a0_0 l0_1 = true ∧ l1.length = l0_1.length ∧ r5 = 4 ∧ (512 < a0_0 ∨ (a0_0 ≤ 512 ∧ 64 < sumN l0_1)) := by
    rcases h with ⟨h1, h2, h3, h4⟩ | ⟨h1, h2, h3, h4, h5⟩
    · exact ⟨h1, h2, h4, .inl h3⟩
    · exact ⟨h1, h2, h5, .inr ⟨h3, h4⟩⟩
  obtain ⟨hr, hl, rfl, hx⟩ := hx
  have HRT : Hid (stock_Right.f a0_0 l0_1 = some true) := by rw [right_f, hr]; rfl
  have HTT : Hid (stock_Total.f a0_0 l0_1 = some (sumN l0_1 : Int)) := by
    unfold stock_Total.f
    rw [hr, if_pos rfl]; rfl
  have e1 : ((l1.length : Int) == (l0_1.length : Int)) = true := by rw [beq_iff_eq]; omega
  have e2 : (l1.length == l0_1.length) = true := by rw [beq_iff_eq]; omega
  have e3 : ((l1.length : Int) != (l0_1.length : Int)) = false := by rw [bne, e1]; rfl
  have e4 : (l1.length != l0_1.length) = false := by rw [bne, e2]; rfl
  clear hr hl h
  rcases hx with hx | ⟨hx1, hx2⟩
  · go_enter Try.func11, Try.ntmps11
    go_upto_region 1 with (fail)
    rw [HW.out]
    go_wp2_with (first
      | (go_at_call 18; (with_reducible refine (stock_Right.calls a0_0 A0_1 c0_1 l0_1 true W (Kd.C_below HR.out HB0.out) HC.out HRT.out).mono ?_); rintro e w1 ⟨rfl, hb1⟩; have HB1 : Aside0 (Below w.heap.size w w1) := ⟨HB0.out.trans (hb1.mono HB0.out.size)⟩; have B21 := Aside0.mk (z09q B2.out hb1); have B31 := Aside0.mk (z09q B3.out hb1); have B41 := Aside0.mk (z09q B4.out hb1); obtain ⟨g0, g1, g2, g3, f0, f1, f2, f3⟩ := box4_cells B41.out; obtain ⟨s0, s1⟩ := z26q B21.out; have s2 := box1_cell B31.out; clear hb1 cs0 cs1))
    refine bodyPost_ret (results_ct rfl _ _ (w.heap.size + 1 + 1) 41 #[.bool false, .slice none 0 0, .slice none 0 0, .slice none 0 0] (0, 0) _ rfl (set4_heap B41.out (.bool false) (.slice none 0 0) (.slice none 0 0) (.slice none 0 0)) Try.underlying41 rfl (by kernel_rfl)) rfl ?_
    exact BestPost.none _ _ _ (set4_below (by omega) HB1.out _ _ _ _)
  · have hx1' : ¬ 512 < a0_0 := by omega
    have hx3 : (64 : Int) < (sumN l0_1 : Int) := by omega
    go_enter Try.func11, Try.ntmps11
    go_upto_region 1 with (fail)
    rw [HW.out]
    go_wp2_with (first
      | (go_at_call 18; (with_reducible refine (stock_Right.calls a0_0 A0_1 c0_1 l0_1 true W (Kd.C_below HR.out HB0.out) HC.out HRT.out).mono ?_); rintro e w1 ⟨rfl, hb1⟩; have HB1 : Aside0 (Below w.heap.size w w1) := ⟨HB0.out.trans (hb1.mono HB0.out.size)⟩; have B21 := Aside0.mk (z09q B2.out hb1); have B31 := Aside0.mk (z09q B3.out hb1); have B41 := Aside0.mk (z09q B4.out hb1); obtain ⟨g0, g1, g2, g3, f0, f1, f2, f3⟩ := box4_cells B41.out; obtain ⟨s0, s1⟩ := z26q B21.out; have s2 := box1_cell B31.out; clear hb1 cs0 cs1)
      | (go_at_call 19; (with_reducible refine (stock_Total.calls a0_0 A0_1 c0_1 l0_1 _ w1 (Kd.C_below HR.out HB1.out) HC.out HTT.out).mono ?_); rintro e w2 ⟨rfl, hb2⟩; have HB2 : Aside0 (Below w.heap.size w w2) := ⟨HB1.out.trans (hb2.mono HB1.out.size)⟩; have B42 := Aside0.mk (z09q B41.out hb2); clear g0 g1 g2 g3 f0 f1 f2 f3; obtain ⟨g0, g1, g2, g3, f0, f1, f2, f3⟩ := box4_cells B42.out; clear hb2 s0 s1 s2))
    refine bodyPost_ret (results_ct rfl _ _ (w.heap.size + 1 + 1) 41 #[.bool false, .slice none 0 0, .slice none 0 0, .slice none 0 0] (0, 0) _ rfl (set4_heap B42.out (.bool false) (.slice none 0 0) (.slice none 0 0) (.slice none 0 0)) Try.underlying41 rfl (by kernel_rfl)) rfl ?_
    exact BestPost.none _ _ _ (set4_below (by omega) HB2.out _ _ _ _)
end
section
variable {F : Fence} {n : Nat} {P : Program} {ops : Array Oper} {Q : Exit → Act → World → Prop} {md : Region.Mode} {S : World → Prop} {B : Nat → Bool}
def wpAnyBIn (F : Fence) (n : Nat) (P : Program) (md : Region.Mode) (ops : Array Oper) (Q : Exit → Act → World → Prop) (S : World → Prop) (B : Nat → Bool) : Nat → Array Bool → Act → World → Prop
  | 0, listed, a, w => Region.ready md ops listed = [] ∧ Q .normal a w
  | fuel + 1, listed, a, w =>
    (Region.ready md ops listed = [] → Q .normal a w) ∧
    ∀ i ∈ Region.ready md ops listed, wpOpIn F n P ops Q i (fun a' w' => (B i = true → S w') ∧ wpAnyBIn F n P md ops Q S B fuel (listed.setIfInBounds i true) a' w') a w
theorem wpAnyIn_of_B : ∀ (fuel : Nat) (listed : Array Bool) (a : Act) (w : World), wpAnyBIn F n P md ops Q S B fuel listed a w → wpAnyIn F n P md ops Q fuel listed a w
  | 0, _, _, _, h => h
  | fuel + 1, _, _, _, h => ⟨h.1, fun i hi => wpOpIn_mono (fun a' w' h' => wpAnyIn_of_B fuel _ a' w' h'.2) (h.2 i hi)⟩
def edgeB (md : Region.Mode) (ops : Array Oper) (j m : Nat) : Bool := match ops[j]? with | some o => o.after.any (fun e => Region.binds md e && e.on == m) | none => false
def behindB (md : Region.Mode) (ops : Array Oper) (B : Nat → Bool) (i : Nat) : Bool := (List.range ops.size).all fun j => B j || edgeB md ops j i || (List.range ops.size).any fun m => edgeB md ops j m && (edgeB md ops m i || (List.range ops.size).any fun m' => edgeB md ops m m' && edgeB md ops m' i)
def Closed (md : Region.Mode) (ops : Array Oper) (listed : Array Bool) : Prop := ∀ j m, listed.getD j true = true → edgeB md ops j m = true → listed.getD m true = true
def closedB (md : Region.Mode) (ops : Array Oper) (listed : Array Bool) : Bool := listed.size == ops.size && (List.range ops.size).all fun j => !(listed.getD j true) || (List.range ops.size).all fun m => !(edgeB md ops j m) || listed.getD m true
theorem edge_lt {j m : Nat} (h : edgeB md ops j m = true) : j < ops.size := by
  unfold edgeB at h
  split at h
  · rename_i o ho
    exact (Array.getElem?_eq_some_iff.1 ho).1
  · cases h
theorem Closed.of {listed : Array Bool} (h : closedB md ops listed = true) : Closed md ops listed := by
  unfold closedB at h
  rw [Bool.and_eq_true, beq_iff_eq] at h
  intro j m hj he
  have h1 := List.all_eq_true.1 h.2 j (List.mem_range.2 (edge_lt he))
  rw [hj] at h1
  by_cases hm : m < ops.size
  · rw [Bool.not_true, Bool.false_or] at h1
    have h2 := List.all_eq_true.1 h1 m (List.mem_range.2 hm)
    rw [he, Bool.not_true, Bool.false_or] at h2
    exact h2
  · have : listed.getD m true = true := by simp [Array.getD, show ¬ m < listed.size by omega]
    exact this
theorem Closed.set {listed : Array Bool} (h : Closed md ops listed) {i : Nat} (hi : i ∈ Region.ready md ops listed) : Closed md ops (listed.setIfInBounds i true) := by
  intro j m hj he
  by_cases hm : i = m
  · subst hm
    rcases Nat.lt_or_ge i listed.size with h' | h'
    · simp [Array.getD, h']
    · simp [Array.getD, show ¬ i < listed.size by omega]
  · rw [Go.getD_set_ne true hm]
    by_cases hj' : i = j
    · subst hj'
      obtain ⟨_, o, ho, hall⟩ := mem_ready.1 hi
      unfold edgeB at he
      rw [ho] at he
      obtain ⟨e, he1, he2⟩ := Array.any_eq_true'.1 he
      rw [Bool.and_eq_true, beq_iff_eq] at he2
      have h1 := hall e he1 he2.1
      rw [he2.2] at h1
      rcases Nat.lt_or_ge m listed.size with h' | h'
      · simp [Array.getD, h'] at h1 ⊢
        simpa using h1
      · simp [Array.getD, show ¬ m < listed.size by omega]
    · rw [Go.getD_set_ne true hj'] at hj
      exact h j m hj he
theorem ready_behind {listed : Array Bool} {i j : Nat} (hb : behindB md ops B i = true) (hc : Closed md ops listed) (hi : listed.getD i true = false) (hj : j ∈ Region.ready md ops listed) : B j = true := by
  obtain ⟨hju, o, ho, hall⟩ := mem_ready.1 hj
  have hlt := (Array.getElem?_eq_some_iff.1 ho).1
  have h1 := List.all_eq_true.1 hb j (List.mem_range.2 hlt)
  have dir : ∀ m, edgeB md ops j m = true → listed.getD m true = true := fun m he => by
    unfold edgeB at he
    rw [ho] at he
    obtain ⟨e, he1, he2⟩ := Array.any_eq_true'.1 he
    rw [Bool.and_eq_true, beq_iff_eq] at he2
    have h2 := hall e he1 he2.1
    rw [he2.2] at h2
    rcases Nat.lt_or_ge m listed.size with h' | h'
    · simp [Array.getD, h'] at h2 ⊢
      simpa using h2
    · simp [Array.getD, show ¬ m < listed.size by omega]
  rw [Bool.or_eq_true, Bool.or_eq_true] at h1
  rcases h1 with (h1 | h1) | h1
  · exact h1
  · rw [dir i h1] at hi; cases hi
  · obtain ⟨m, _, hm⟩ := List.any_eq_true.1 h1
    rw [Bool.and_eq_true, Bool.or_eq_true] at hm
    have h2 : listed.getD i true = true := by
      rcases hm.2 with h3 | h3
      · exact hc m i (dir m hm.1) h3
      · obtain ⟨m', _, hm'⟩ := List.any_eq_true.1 h3
        rw [Bool.and_eq_true] at hm'
        exact hc m' i (hc m m' (dir m hm.1) hm'.1) hm'.2
    rw [h2] at hi; cases hi
theorem wpAnyBIn_first {i : Nat} {oi : Oper} {v : Value} (hds : ∀ (j : Nat) (o : Oper) c, ops[j]? = some o → o.op ≠ .defer c) (hi : ops[i]? = some oi) (hsel : ∀ (j : Nat) (o : Oper) cs b, ops[j]? = some o → o.op ≠ .select cs b)
    (hQ : ∀ c a w, Q (.panic c) (a.put oi.dst v) w → Q (.panic c) a w) (hb : behindB md ops B i = true) :
    ∀ (fuel : Nat) (listed : Array Bool) (a : Act) (w : World), Closed md ops listed →
      (∀ j oj, ops[j]? = some oj → j ≠ i → listed.getD j true = false → (∀ e ∈ oj.after, Region.binds md e = true → e.on ≠ i) → oi.apart ops oj = true) →
      i ∈ Region.ready md ops listed → YieldsHeld P ops S oi v a → S w →
      wpAnyBIn F n P md ops Q S B fuel (listed.setIfInBounds i true) (a.put oi.dst v) w → wpAnyBIn F n P md ops Q S B (fuel + 1) listed a w := by
  intro fuel
  induction fuel with
  | zero =>
    intro listed a w _ _ hr hy hS H
    refine ⟨fun h => (by rw [h] at hr; cases hr), fun j hj => ?_⟩
    by_cases hji : j = i
    · subst hji; exact hy.wpOpIn (fun c => hds _ _ c hi) hi hS ⟨fun _ => hS, H⟩
    · have := ready_mono hj hji
      rw [H.1] at this
      cases this
  | succ fuel ih =>
    intro listed a w hcl hfree hr hy hS H
    refine ⟨fun h => (by rw [h] at hr; cases hr), fun j hj => ?_⟩
    by_cases hji : j = i
    · subst hji; exact hy.wpOpIn (fun c => hds _ _ c hi) hi hS ⟨fun _ => hS, H⟩
    · have h1 := H.2 j (ready_mono hj hji)
      obtain ⟨hjun, oj, hoj, hall⟩ := mem_ready.1 hj
      have hBj : B j = true := ready_behind hb hcl (mem_ready.1 hr).1 hj
      have hnot : ∀ e ∈ oj.after, Region.binds md e = true → e.on ≠ i := fun e he hb heq => by
        have h1 := hall e he hb
        have h0 := (mem_ready.1 hr).1
        rw [heq] at h1
        rcases Nat.lt_or_ge i listed.size with h' | h'
        · simp [h'] at h0 h1; rw [h0] at h1; cases h1
        · simp [Array.getElem?_eq_none h'] at h1
      have h2 := wpOpIn_putHeld (fun c => hds _ _ c hoj) hoj (hfree j oj hoj hji hjun hnot) (fun cs b => hsel i oi cs b hi) (fun cs b => hsel j oj cs b hoj) hQ hy h1
      have hfree' : ∀ k ok, ops[k]? = some ok → k ≠ i → (listed.setIfInBounds j true).getD k true = false →
          (∀ e ∈ ok.after, Region.binds md e = true → e.on ≠ i) → oi.apart ops ok = true := fun k ok hk hki hun hno => by
        refine hfree k ok hk hki ?_ hno
        by_cases hjk : j = k
        · subst hjk; exact hjun
        · rw [Go.getD_set_ne true hjk] at hun; exact hun
      refine wpOpIn_mono (fun a' w' h3 => ⟨fun _ => h3.2.1 hBj, ih (listed.setIfInBounds j true) a' w' (hcl.set hj) hfree' (ready_mono hr (Ne.symm hji)) h3.1 (h3.2.1 hBj) ?_⟩) h2
      rw [Array.setIfInBounds_comm _ _ hji]
      exact h3.2.2
theorem z21q {i : Nat} {oi : Oper} {v : Value} {dst : Nat} {fuel : Nat} {listed : Array Bool} {a : Act} {w : World} (hd : noDefer ops = true) (hi : ops[i]? = some oi) (hdst : oi.dst = some dst)
    (hs : Region.noSelect ops = true) (hf : Region.free md ops listed i = true) (hr : (Region.ready md ops listed).contains i = true) (hb : behindB md ops B i = true) (hc : closedB md ops listed = true)
    (hQ : ∀ c (a : Act) w, Q (.panic c) { a with tmps := a.tmps.setIfInBounds dst v } w → Q (.panic c) a w) (hy : YieldsHeld P ops S oi v a) (hS : S w)
    (h : wpAnyBIn F n P md ops Q S B fuel (listed.setIfInBounds i true) { a with tmps := a.tmps.setIfInBounds dst v } w) : wpAnyBIn F n P md ops Q S B (fuel + 1) listed a w :=
  wpAnyBIn_first (noDefer_spec hd) hi (Region.noSelect_spec hs) (by rw [hdst]; exact hQ) hb fuel listed a w (Closed.of hc) (Region.free_spec hi hf) (by simpa using hr) hy hS (by rw [hdst]; exact h)
theorem wpAnyBIn_one {i : Nat} {o : Oper} {fuel : Nat} {listed : Array Bool} {a : Act} {w : World} (hr : Region.ready md ops listed = [i]) (ho : ops[i]? = some o)
    (h : ∀ K' : Act → World → Prop, (∀ a w, (B i = true → S w) → wpAnyBIn F n P md ops Q S B fuel (listed.setIfInBounds i true) a w → K' a w) → if Region.wanted o (yielded ops a.tmps) = true then Oper.wpIn F n P o a w K' Q else (∀ f, o.about P w a.eval = some f → F.fn f) ∧ K' (a.put o.dst undef) w) : wpAnyBIn F n P md ops Q S B (fuel + 1) listed a w :=
  ⟨fun h0 => (by rw [hr] at h0; cases h0), fun j hj => by
    rw [hr] at hj
    obtain rfl := List.mem_singleton.1 hj
    exact wpOpIn_step ho (fun K' hK => h K' (fun a w hS hW => hK a w ⟨hS, hW⟩))⟩
theorem wpAnyBIn_two {i j : Nat} {o o' : Oper} {fuel : Nat} {listed : Array Bool} {a : Act} {w : World} (hr : Region.ready md ops listed = [i, j]) (ho : ops[i]? = some o) (ho' : ops[j]? = some o')
    (h : ∀ K' : Act → World → Prop, (∀ a w, (B i = true → S w) → wpAnyBIn F n P md ops Q S B fuel (listed.setIfInBounds i true) a w → K' a w) → if Region.wanted o (yielded ops a.tmps) = true then Oper.wpIn F n P o a w K' Q else (∀ f, o.about P w a.eval = some f → F.fn f) ∧ K' (a.put o.dst undef) w)
    (h' : ∀ K' : Act → World → Prop, (∀ a w, (B j = true → S w) → wpAnyBIn F n P md ops Q S B fuel (listed.setIfInBounds j true) a w → K' a w) → if Region.wanted o' (yielded ops a.tmps) = true then Oper.wpIn F n P o' a w K' Q else (∀ f, o'.about P w a.eval = some f → F.fn f) ∧ K' (a.put o'.dst undef) w) : wpAnyBIn F n P md ops Q S B (fuel + 1) listed a w :=
  ⟨fun h0 => (by rw [hr] at h0; cases h0), fun k hk => by
    rw [hr] at hk
    rcases List.mem_cons.1 hk with rfl | hk
    · exact wpOpIn_step ho (fun K' hK => h K' (fun a w hS hW => hK a w ⟨hS, hW⟩))
    · obtain rfl := List.mem_singleton.1 hk
      exact wpOpIn_step ho' (fun K' hK => h' K' (fun a w hS hW => hK a w ⟨hS, hW⟩))⟩
theorem wpAnyBIn_done {fuel : Nat} {listed : Array Bool} {a : Act} {w : World} (hr : Region.ready md ops listed = []) (h : Q .normal a w) : wpAnyBIn F n P md ops Q S B fuel listed a w :=
  match fuel with
  | 0 => ⟨hr, h⟩
  | _ + 1 => ⟨fun _ => h, by rw [hr]; simp⟩
theorem wpIn_region_heldB {id : Nat} {a : Act} {w : World} (S : World → Prop) (B : Nat → Bool) (hm : P.follows .mixedOrders = true)
    (h : wpAnyBIn F n P .any ops Q S B ops.size (Array.replicate ops.size false) a w.drew) : (Code.region id ops true).wpIn F n P Q a w :=
  wpIn_region_any hm (wpAnyIn_of_B _ _ _ _ h)
end
section
attribute [local go_sem] Oper.semAt_some
theorem run_make_rats (n : Nat) (hn : n ≤ 1000) (w : World) : (Instr.makeSlice 25 (.int .i64 (n : Int)) (.int .i64 (n : Int))).run Try.prog w = .ok (.slice (some ⟨w.heap.size, 0, none⟩) n n) (w.alloc (.cells (madeCells #[.bool false, .slice none 0 0, .slice none 0 0] (n * 3)) 39)) := by
  have hinfo : (Try.prog.info? 39).map (fun i => (i.zero, i.size, i.bytes)) = some (some (.agg #[.bool false, .slice none 0 0, .slice none 0 0]), 3, 56) := by kernel_rfl
  obtain ⟨i, hi, hzz⟩ := Option.map_eq_some_iff.1 hinfo
  simp only [Prod.mk.injEq] at hzz
  obtain ⟨hz, hs, hb⟩ := hzz
  have hr := run_make (P := Try.prog) w 25 39 i (.agg #[.bool false, .slice none 0 0, .slice none 0 0]) Try.underlying25 hi hz .i64 .i64 n n (by omega) (Int.le_refl _) (by rw [hb]; omega) (by omega)
  simp only [Int.toNat_natCast, hs] at hr
  exact hr
theorem made_at (z : Array Value) (n i : Nat) (h : i < n) : (madeCells z n)[i]? = some z[i % z.size]! := by
  unfold madeCells
  rw [Array.getElem?_map]
  simp [h]
theorem ks_skip {wd : Nat → Nat} {v : Nat → Rat} {qs : List Nat} {k j : Nat} (h : ¬ wd k ≤ j) : ksVal wd v (k :: qs) j = ksVal wd v qs j ∧ ksCond wd v qs k j = false :=
  ⟨by rw [ksVal, if_neg (fun e => h e.1)], by unfold ksCond; exact decide_eq_false (fun e => h e.1)⟩
theorem ks_no {wd : Nat → Nat} {v : Nat → Rat} {qs : List Nat} {k j : Nat} (h : ¬ ksVal wd v qs j < ksVal wd v qs (j - wd k) + v k) : ksVal wd v (k :: qs) j = ksVal wd v qs j ∧ ksCond wd v qs k j = false :=
  ⟨by rw [ksVal, if_neg (fun e => h e.2)], by unfold ksCond; exact decide_eq_false (fun e => h e.2)⟩
theorem ks_yes {wd : Nat → Nat} {v : Nat → Rat} {qs : List Nat} {k j : Nat} (h1 : wd k ≤ j) (h : ksVal wd v qs j < ksVal wd v qs (j - wd k) + v k) : ksVal wd v (k :: qs) j = ksVal wd v qs (j - wd k) + v k ∧ ksCond wd v qs k j = true :=
  ⟨by rw [ksVal, if_pos ⟨h1, h⟩], by unfold ksCond; exact decide_eq_true ⟨h1, h⟩⟩
theorem made_bools (N : Nat) : madeCells #[.bool false] N = ((List.replicate N false).map Value.bool).toArray := by
  apply Array.ext_getElem?
  intro i
  by_cases h : i < N
  · rw [made_at _ _ _ h]
    simp [h, Nat.mod_one]
  · rw [Array.getElem?_eq_none (by rw [size_madeCells]; omega), Array.getElem?_eq_none (by simp; omega)]
theorem wrap_small {d : Nat} (h : d ≤ 100000) : IntKind.i64.wrap (d : Int) = (d : Int) := by
  rw [IntKind.wrap_i64]
  omega
theorem made_ints (N : Nat) : madeCells #[.int .i64 0] N = ((List.replicate N 0).map fun n : Nat => Value.int .i64 (n : Int)).toArray := by
  apply Array.ext_getElem?
  intro i
  by_cases h : i < N
  · rw [made_at _ _ _ h]
    simp [h, Nat.mod_one]
  · rw [Array.getElem?_eq_none (by rw [size_madeCells]; omega), Array.getElem?_eq_none (by simp; omega)]
theorem own_slice {w : World} {base size n : Nat} {e : TypeId} {v : Value} {xs : List Value} (h : w.ownsRow base e size v n xs) : ∃ A c, v = .slice A n c := by
  rcases h.2 with ⟨rfl, rfl⟩ | ⟨g, cap, cur, rfl, _⟩
  · exact ⟨_, _, rfl⟩
  · exact ⟨_, _, rfl⟩
theorem BA.made {n N : Nat} {U : World} {h : Nat} (hh : U.heap[h]? = some (.cells (madeCells #[.bool false, .slice none 0 0, .slice none 0 0] (N * 3)) 39 (0, 0))) : BA n U h (List.replicate N z39) := by
  refine ⟨_, hh, by rw [size_madeCells, List.length_replicate], fun j x hj => ?_⟩
  have hj' : j < N := by
    have := (List.getElem?_eq_some_iff.1 hj).1
    simpa using this
  obtain rfl : x = z39 := by
    rw [List.getElem?_replicate, if_pos hj'] at hj
    exact (Option.some.inj hj).symm
  refine ⟨.slice none 0 0, .slice none 0 0, ?_, ?_, ?_, Kd.R_nil _ _ _ _ _, Kd.R_nil _ _ _ _ _⟩
  · rw [made_at _ _ _ (by omega)]
    show some ((#[Value.bool false, .slice none 0 0, .slice none 0 0] : Array Value)[(j * 3) % 3]!) = _
    rw [show (j * 3) % 3 = 0 by omega]; rfl
  · rw [made_at _ _ _ (by omega)]
    show some ((#[Value.bool false, .slice none 0 0, .slice none 0 0] : Array Value)[(j * 3 + 1) % 3]!) = _
    rw [show (j * 3 + 1) % 3 = 1 by omega]; rfl
  · rw [made_at _ _ _ (by omega)]
    show some ((#[Value.bool false, .slice none 0 0, .slice none 0 0] : Array Value)[(j * 3 + 2) % 3]!) = _
    rw [show (j * 3 + 2) % 3 = 2 by omega]; rfl
def filled {α : Type} (f : Nat → α) (z : α) (N j : Nat) : List α := (List.range N).map fun i => if i < j then f i else z
theorem filled_length {α : Type} (f : Nat → α) (z : α) (N j : Nat) : (filled f z N j).length = N := by simp [filled]
theorem filled_zero {α : Type} (f : Nat → α) (z : α) (N : Nat) : filled f z N 0 = List.replicate N z := by
  apply List.ext_getElem?
  intro i
  simp [filled, List.getElem?_replicate, List.getElem?_range]
  by_cases h : i < N <;> simp [h]
theorem filled_set {α : Type} (f : Nat → α) (z : α) (N j : Nat) : (filled f z N j).set j (f j) = filled f z N (j + 1) := by
  apply List.ext_getElem?
  intro i
  rw [List.getElem?_set]
  simp only [filled, List.length_map, List.length_range, List.getElem?_map]
  by_cases h : i < N
  · by_cases hij : j = i
    · subst hij; simp [h]
    · rw [if_neg hij, List.getElem?_range h]
      simp only [Option.map_some]
      by_cases h2 : i < j
      · rw [if_pos h2, if_pos (by omega)]
      · rw [if_neg h2, if_neg (by omega)]
  · by_cases hij : j = i
    · subst hij; simp [h]
    · rw [if_neg hij]
      simp [h]
theorem filled_all {α : Type} (f : Nat → α) (z : α) (N : Nat) : filled f z N N = (List.range N).map f := by
  apply List.map_congr_left
  intro i hi
  rw [if_pos (List.mem_range.1 hi)]
theorem filled_at {α : Type} (f : Nat → α) (z : α) (N j : Nat) {i : Nat} (h : i < N) : (filled f z N j)[i]? = some (if i < j then f i else z) := by
  simp [filled, List.getElem?_range h]
theorem filled_skip {α : Type} (f : Nat → α) (z : α) (N j : Nat) (h : f j = z) : filled f z N j = filled f z N (j + 1) := by
  apply List.map_congr_left
  intro i _
  by_cases h1 : i < j
  · rw [if_pos h1, if_pos (by omega)]
  · by_cases h2 : i = j
    · subst h2; rw [if_neg h1, if_pos (by omega), h]
    · rw [if_neg h1, if_neg (by omega)]
theorem knap_zero.calls (w : World) : Calls Try.prog 20 #[] w fun e w' => ∃ A1 c1 A2 c2, e = .returned (.agg #[.bool (toS 0).f0.f0, .slice A1 (toS 0).f0.f1.length c1, .slice A2 (toS 0).f1.length c2]) ∧ EL w.heap.size w' (toS 0) (.slice A1 (toS 0).f0.f1.length c1) (.slice A2 (toS 0).f1.length c2) ∧ Below w.heap.size w w' := by
  obtain ⟨k, hk⟩ := zero_some
  have HK : Hid (rat_Int.f k 0 = some ((toS 0).f0.f0, (toS 0).f0.f1, (toS 0).f1)) := hk
  clear hk
  generalize hz : toS 0 = z at *
  have hb0 : Aside0 (Below w.heap.size w (w.alloc (.cells #[.bool false, .slice none 0 0, .slice none 0 0] 39))) := ⟨(Below.refl _ w).alloc (Nat.le_refl _) _⟩
  have bN : Aside0 ((w.alloc (.cells #[.bool false, .slice none 0 0, .slice none 0 0] 39)).heap[w.heap.size]? = some (.cells #[.bool false, .slice none 0 0, .slice none 0 0] 39)) := ⟨World.alloc_heap_new w _⟩
  clear hz
  go_enter Try.func20, Try.ntmps20
  go_wp2_with (go_at_call 21; (with_reducible refine (rat_Int.calls k 0 z.f0.f0 z.f0.f1 z.f1 _ HK.out).mono ?_); rintro e w1 ⟨v1, v2, rfl, hv1, hv2, hb1⟩; obtain ⟨A1, c1, rfl⟩ := Kd.R_slice hv1; obtain ⟨A2, c2, rfl⟩ := Kd.R_slice hv2; have HE : Aside0 (EL (w.alloc (.cells #[.bool false, .slice none 0 0, .slice none 0 0] 39)).heap.size w1 z (.slice A1 z.f0.f1.length c1) (.slice A2 z.f1.length c2)) := ⟨hv1, hv2⟩; have HB1 : Aside0 (Below w.heap.size w w1) := ⟨hb0.out.trans (hb1.mono hb0.out.size)⟩; have N1 := Aside0.mk (z09q bN.out hb1); have q0 : w1.cell? ⟨w.heap.size, 0, none⟩ = some (.bool false) := (z04q N1.out 0).trans rfl; have q1 : w1.cell? ⟨w.heap.size, 1, none⟩ = some (.slice none 0 0) := (z04q N1.out 1).trans rfl; have q2 : w1.cell? ⟨w.heap.size, 2, none⟩ = some (.slice none 0 0) := (z04q N1.out 2).trans rfl; have f0 := z08q N1.out 0; have f1 := z08q N1.out 1; have f2 := z08q N1.out 2; clear hv1 hv2 hb1)
  have h1 := blk_put N1.out 0 (.bool z.f0.f0) rfl
  have h2 := blk_put h1 1 (.slice A1 z.f0.f1.length c1) rfl
  have h3 := blk_put h2 2 (.slice A2 z.f1.length c2) rfl
  have hT : Tkeep 96 w1 (((w1.setCell ⟨w.heap.size, 0, none⟩ (.bool z.f0.f0)).setCell ⟨w.heap.size, 1, none⟩ (.slice A1 z.f0.f1.length c1)).setCell ⟨w.heap.size, 2, none⟩ (.slice A2 z.f1.length c2)) :=
    ((Tkeep.set (p := ⟨w.heap.size, 0, none⟩) N1.out (by decide) _).trans (Tkeep.set (p := ⟨w.heap.size, 1, none⟩) h1 (by decide) _)).trans (Tkeep.set (p := ⟨w.heap.size, 2, none⟩) h2 (by decide) _)
  refine bodyPost_ret (results_cell_row rfl _ _ w.heap.size 39 #[.bool z.f0.f0, .slice A1 z.f0.f1.length c1, .slice A2 z.f1.length c2] (0, 0) _ rfl h3 Try.underlying39 rfl (by kernel_rfl)) rfl ?_
  exact ⟨A1, c1, A2, c2, rfl, ⟨Kd.R_lower (HE.out.keep hT).1 (by simp), Kd.R_lower (HE.out.keep hT).2 (by simp)⟩, below_box3 HB1.out _ _ _⟩
def bestL (zs : List S46) (ls : List S39) (qs : List Nat) (N : Nat) : List S39 := (List.range N).map fun w => toS (ksVal (wdOf zs) (vOf ls) qs w)
theorem bestL_at {zs : List S46} {ls : List S39} {qs : List Nat} {N j : Nat} (h : j < N) : (bestL zs ls qs N)[j]? = some (toS (ksVal (wdOf zs) (vOf ls) qs j)) := by
  simp [bestL, List.getElem?_range h]
structure KF (w : World) (a : Int) (A : Option Addr) (n c : Nat) (A' : Option Addr) (n' c' : Nat) (U : World) : Prop where
  b2 : U.heap[w.heap.size]? = some (.cells #[.int .i64 a, .slice A n c] 24 (0, 0))
  b3 : U.heap[w.heap.size + 1]? = some (.cells #[.slice A' n' c'] 25 (0, 0))
  b4 : U.heap[w.heap.size + 1 + 1]? = some (.cells #[.bool false, .slice none 0 0, .slice none 0 0, .slice none 0 0] 41 (0, 0))
  bel : Below w.heap.size w U
theorem KF.below {w : World} {a : Int} {A : Option Addr} {n c : Nat} {A' : Option Addr} {n' c' : Nat} {U U' : World} (k : KF w a A n c A' n' c' U) (hb : Below U.heap.size U U') : KF w a A n c A' n' c' U' :=
  ⟨z09q k.b2 hb, z09q k.b3 hb, z09q k.b4 hb, k.bel.trans (hb.mono k.bel.size)⟩
theorem KF.set {w : World} {a : Int} {A : Option Addr} {n c : Nat} {A' : Option Addr} {n' c' : Nat} {U : World} (k : KF w a A n c A' n' c' U) {p : Addr} (hp : w.heap.size + 1 + 1 < p.block) (u : Value) : KF w a A n c A' n' c' (U.setCell p u) :=
  ⟨(Below.heap_setCell U p u _ (by omega)).trans k.b2, (Below.heap_setCell U p u _ (by omega)).trans k.b3, (Below.heap_setCell U p u _ (by omega)).trans k.b4, k.bel.setCell (by omega) u⟩
theorem KF.set3 {w : World} {a : Int} {A : Option Addr} {n c : Nat} {A' : Option Addr} {n' c' : Nat} {U : World} (k : KF w a A n c A' n' c' U) {h : Nat} (hp : w.heap.size + 1 + 1 < h) (j : Nat) (x y z : Value) : KF w a A n c A' n' c' (set3 U h j x y z) :=
  ((k.set (p := ⟨h, j * 3, none⟩) hp x).set (p := ⟨h, j * 3 + 1, none⟩) hp y).set (p := ⟨h, j * 3 + 2, none⟩) hp z
theorem KF.sz {w : World} {a : Int} {A : Option Addr} {n c : Nat} {A' : Option Addr} {n' c' : Nat} {U : World} (k : KF w a A n c A' n' c' U) : w.heap.size + 1 + 1 < U.heap.size := blk_lt k.b4
theorem EL.lower {n n' : Nat} {U : World} {x : S39} {v1 v2 : Value} (e : EL n U x v1 v2) (h : n' ≤ n) : EL n' U x v1 v2 := ⟨Kd.R_lower e.1 h, Kd.R_lower e.2 h⟩
theorem pickB_eq (v : Nat → Rat) (N : Nat → Nat) (ks : List Nat) : ksPick v N ks = pickB (fun i => decide (0 < v i)) N ks := by
  induction ks with
  | nil => rfl
  | cons k ks ih => simp only [ksPick, pickB, ih, decide_eq_true_eq]
theorem pickB_sum (pos : Nat → Bool) (zs : List S46) (i : Nat) : i ≤ zs.length → (pickB pos (needN zs) (List.range i)).length ≤ sumN (zs.take i) := by
  induction i with
  | zero => intro _; exact Nat.zero_le _
  | succ i ih =>
    intro h
    have h1 := ih (by omega)
    have h2 := sumN_take zs (i := i) (by omega)
    rw [pickB_succ, List.length_append, h2]
    have h3 : (if pos i = true then List.replicate (needN zs i) i else []).length ≤ needN zs i := by split <;> simp
    unfold needN at h3 ⊢
    unfold needN at h1
    omega
theorem sq_pre {m : Nat} {zs : List S46} {ls : List S39} (pre : List (Fin m)) (hm : m ≤ ls.length) (hg : ls.all goodS = true) (hp : pre.length < 65) (j : Nat) : sq (ksVal (wdOf zs) (vOf ls) (pre.map Fin.val).reverse j) ≤ 257 := by
  have h := sq_ksVal (wd := wdOf zs) (v := vOf ls) (pre.map Fin.val).reverse (fun k hk => by
    rw [List.mem_reverse, List.mem_map] at hk
    obtain ⟨x, _, rfl⟩ := hk
    exact goodS_sq (good_at hg (by have := x.2; omega))) j
  rw [List.length_reverse, List.length_map] at h
  omega
def BelowS (V w' : World) : Prop := Below V.heap.size V w'
def CKeep (U U' : World) : Prop := ∀ (k : Nat) (cs : Array Value) (t : TypeId), U.heap[k]? = some (.cells cs t (0, 0)) → U'.heap[k]? = some (.cells cs t (0, 0))
theorem CKeep.below {U U' : World} (h : Below U.heap.size U U') : CKeep U U' := fun _ _ _ hk => z09q hk h
theorem CKeep.t {U U' : World} (h : CKeep U U') (t : TypeId) : Tkeep t U U' := fun k cs hk => h k cs t hk
theorem CKeep.own {U U' : World} (h : CKeep U U') {base size n : Nat} {e : TypeId} {v : Value} {xs : List Value} (ho : U.ownsRow base e size v n xs) : U'.ownsRow base e size v n xs := by
  obtain ⟨h1, h2⟩ := ho
  refine ⟨h1, ?_⟩
  rcases h2 with h2 | ⟨g, cap, cur, rfl, hg, hh, r⟩
  · exact .inl h2
  · exact .inr ⟨g, cap, cur, rfl, hg, h g cur e hh, r⟩
theorem CKeep.ba {U U' : World} (h : CKeep U U') {n b : Nat} {xs : List S39} (ba : BA n U b xs) : BA n U' b xs := by
  obtain ⟨CS, h1, h2, h3⟩ := ba
  exact ⟨CS, h b CS _ h1, h2, fun j x hj => by
    obtain ⟨v1, v2, e1, e2, e3, e4⟩ := h3 j x hj
    exact ⟨v1, v2, e1, e2, e3, e4.keep (h.t _)⟩⟩
def rowL (zs : List S46) (ls : List S39) (pre : List Nat) (N j : Nat) : List Bool := (List.range N).map fun w => ksCond (wdOf zs) (vOf ls) (pre.take j).reverse (pre.getD j 0) w
theorem rowL_snoc {zs : List S46} {ls : List S39} {pre : List Nat} {k N j : Nat} (h : j < pre.length) : rowL zs ls (pre ++ [k]) N j = rowL zs ls pre N j := by
  unfold rowL
  rw [List.take_append_of_le_length (by omega)]
  simp only [List.getD, List.getElem?_append_left h]
theorem rowL_last {zs : List S46} {ls : List S39} {pre : List Nat} {k N : Nat} : rowL zs ls (pre ++ [k]) N pre.length = (List.range N).map fun w => ksCond (wdOf zs) (vOf ls) pre.reverse k w := by
  unfold rowL
  rw [List.take_append_of_le_length (Nat.le_refl _), List.take_length]
  simp [List.getD]
structure KL (n0 b7 b9 b10 N : Nat) (zs : List S46) (ls : List S39) (pre : List Nat) (U : World) : Prop where
  x7 : ∃ h, Boxed U b7 25 (.slice (some ⟨h, 0, none⟩) N N) ∧ BA n0 U h (bestL zs ls pre.reverse N)
  x9 : ∃ v, Boxed U b9 29 v ∧ U.ownsRow n0 3 1 v pre.length (pre.map fun k : Nat => Value.int .i64 (k : Int))
  x10 : ∃ (v : Value) (gs : List Nat), Boxed U b10 59 v ∧ U.ownsRow n0 62 1 v pre.length (gs.map fun g : Nat => Value.slice (some ⟨g, 0, none⟩) N N) ∧ gs.length = pre.length ∧ ∀ j g, gs[j]? = some g → BR U g (rowL zs ls pre N j)
theorem KL.keep {n0 b7 b9 b10 N : Nat} {zs : List S46} {ls : List S39} {pre : List Nat} {U U' : World} (k : KL n0 b7 b9 b10 N zs ls pre U) (h : CKeep U U') : KL n0 b7 b9 b10 N zs ls pre U' := by
  obtain ⟨⟨hb, h1, h2⟩, ⟨v, h3, h4⟩, ⟨u, gs, h5, h6, h7, h8⟩⟩ := k
  exact ⟨⟨hb, h _ _ _ h1, h.ba h2⟩, ⟨v, h _ _ _ h3, h.own h4⟩, ⟨u, gs, h _ _ _ h5, h.own h6, h7, fun j g hg => h _ _ _ (h8 j g hg)⟩⟩
def TK2 (U U' : World) : Prop := ∀ (k : Nat) (cs : Array Value) (t : TypeId), t ≠ 3 → t ≠ 62 → U.heap[k]? = some (.cells cs t (0, 0)) → U'.heap[k]? = some (.cells cs t (0, 0))
theorem TK2.t {U U' : World} (h : TK2 U U') {t : TypeId} (h1 : t ≠ 3) (h2 : t ≠ 62) : Tkeep t U U' := fun k cs hk => h k cs t h1 h2 hk
theorem TK2.below {X Y Z : World} (h : TK2 X Y) (hb : Below Y.heap.size Y Z) : TK2 X Z := fun k cs t h1 h2 hk => z09q (h k cs t h1 h2 hk) hb
theorem TK2.grown {X Y Z : World} (h : TK2 X Y) {v : Value} {base size n : Nat} {e : TypeId} {xs : List Value} (ho : Y.ownsRow base e size v n xs) (he : e = 3 ∨ e = 62) (hg : Y.grownBy Z v.ownBlock) : TK2 X Z := fun k cs t h1 h2 hk => by
  have h3 := h k cs t h1 h2 hk
  refine (hg.block k (blk_lt h3) (fun e' => ?_)).trans h3
  obtain ⟨cells, hc⟩ := own_typed ho k e'.symm
  rw [h3] at hc
  simp at hc
  rcases he with he | he
  · exact h1 (hc.2.trans he)
  · exact h2 (hc.2.trans he)
structure ST (n0 : Nat) (V : World) (v9 : Value) (k9 : Nat) (x9 : List Value) (v10 : Value) (k10 : Nat) (x10 : List Value) (X : World) : Prop where
  tk : TK2 V X
  bl : Below n0 V X
  ko : KeepsOthers V X
  o9 : X.ownsRow n0 3 1 v9 k9 x9
  o10 : X.ownsRow n0 62 1 v10 k10 x10
  sz : n0 ≤ X.heap.size
section
variable {n0 : Nat} {V X X' : World} {v9 v9' v10 v10' : Value} {k9 k9' k10 k10' : Nat} {x9 x9' x10 x10' : List Value}
theorem ST.drew (h : ST n0 V v9 k9 x9 v10 k10 x10 X) : ST n0 V v9 k9 x9 v10 k10 x10 X.drew := ⟨h.tk.below (Below.refl _ X).drew, h.bl.drew, h.ko.trans (KeepsOthers.drew _), h.o9, h.o10, h.sz⟩
theorem ST.alloc (h : ST n0 V v9 k9 x9 v10 k10 x10 X) (o : Obj) : ST n0 V v9 k9 x9 v10 k10 x10 (X.alloc o) :=
  ⟨h.tk.below ((Below.refl _ X).alloc (Nat.le_refl _) _), h.bl.alloc h.sz _, h.ko.trans (KeepsOthers.alloc _ _), h.o9.alloc _, h.o10.alloc _, Nat.le_trans h.sz (by simp)⟩
theorem own_ne_own {w : World} {base base' size size' n n' : Nat} {e e' : TypeId} {v v' : Value} {xs xs' : List Value} (h : w.ownsRow base e size v n xs) (h' : w.ownsRow base' e' size' v' n' xs') (hne : e ≠ e') : v.ownBlock = none ∨ v.ownBlock ≠ v'.ownBlock := by
  rcases h.2 with ⟨rfl, _⟩ | ⟨g, cap, cur, rfl, _, hh, _⟩
  · exact .inl rfl
  · refine .inr fun e1 => ?_
    obtain ⟨cells, hc⟩ := own_typed h' g (by rw [← e1]; rfl)
    rw [hh] at hc
    simp at hc
    exact hne hc.2
theorem own_ge {w : World} {base size n : Nat} {e : TypeId} {v : Value} {xs : List Value} (h : w.ownsRow base e size v n xs) (k : Nat) (hk : v.ownBlock = some k) : base ≤ k := own_base h k hk
theorem ko_grown {X Y Z : World} (h : KeepsOthers X Y) {base size n : Nat} {e : TypeId} {v : Value} {xs : List Value} (ho : Y.ownsRow base e size v n xs) (hg : Y.grownBy Z v.ownBlock) : KeepsOthers X Z :=
  h.trans (KeepsOthers.of_grownBy hg (fun k o hk ho' => by
    obtain ⟨cells, hc⟩ := own_typed ho k hk
    rw [ho'] at hc
    cases hc
    rfl))
theorem ST.app9 (h : ST n0 V v9 k9 x9 v10 k10 x10 X) (hown : X'.ownsRow n0 3 1 v9' k9' x9') (hg : X.grownBy X' v9.ownBlock) : ST n0 V v9' k9' x9' v10 k10 x10 X' :=
  ⟨h.tk.grown h.o9 (.inl rfl) hg, h.bl.grown hg h.sz (fun k hk => own_ge h.o9 k hk), ko_grown h.ko h.o9 hg, hown, h.o10.kept hg (own_ne_own h.o10 h.o9 (by decide)), Nat.le_trans h.sz hg.size⟩
theorem ST.app10 (h : ST n0 V v9 k9 x9 v10 k10 x10 X) (hown : X'.ownsRow n0 62 1 v10' k10' x10') (hg : X.grownBy X' v10.ownBlock) : ST n0 V v9 k9 x9 v10' k10' x10' X' :=
  ⟨h.tk.grown h.o10 (.inr rfl) hg, h.bl.grown hg h.sz (fun k hk => own_ge h.o10 k hk), ko_grown h.ko h.o10 hg, h.o9.kept hg (own_ne_own h.o9 h.o10 (by decide)), hown, Nat.le_trans h.sz hg.size⟩
theorem blk_grown_ty {base size n : Nat} {e t : TypeId} {v : Value} {xs : List Value} {cs : Array Value} {g : Nat} (ho : X.ownsRow base e size v n xs) (hg : X.grownBy X' v.ownBlock) (hb : X.heap[g]? = some (.cells cs t (0, 0))) (hne : t ≠ e) : X'.heap[g]? = some (.cells cs t (0, 0)) := by
  refine (hg.block g (blk_lt hb) (fun e1 => ?_)).trans hb
  obtain ⟨cells, hc⟩ := own_typed ho g e1.symm
  rw [hb] at hc
  simp at hc
  exact hne hc.2
end
theorem stepIn_append1 {F : Fence} {n : Nat} {P : Program} {ops : Array Oper} {o : Oper} {a : Act} {w : World} {K : Act → World → Prop} {Q : Exit → Act → World → Prop} {E : Prop} (hgd : o.guard = none) (s x : Operand) (t : TypeId)
    (ho : o.op = .call { callee := .builtin .append, args := #[s, x], argTypes := #[t, t] }) (base : Nat) (e : TypeId) (i : TypeInfo) (z : Value) (bytes : Nat) (ht : P.underlying t = some (.slice e)) (hi : P.info? e = some i) (hz : i.zero = some z) (hsize : i.size = 1) (hby : i.bytes = bytes) (hzs : z.cells.size = 1)
    (v : Value) (k : Nat) (xs : List Value) (hs : a.eval s = v) (hown : w.ownsRow base e 1 v k xs) (ad : Addr) (c : Nat) (u : Value) (hx : a.eval x = .slice (some ad) 1 c) (hnew : w.cell? ad = some u) (h1 : u.oneCell' = true) (hk : k ≤ 1000) (hb : bytes ≤ 100) (hbase : base ≤ w.heap.size)
    (h : ∀ g cap w', w'.ownsRow base e 1 (.slice (some ⟨g, 0, none⟩) (k + 1) cap) (k + 1) (xs ++ [u]) → w.grownBy w' v.ownBlock → K (a.put o.dst (.slice (some ⟨g, 0, none⟩) (k + 1) cap)) w') :
    if Region.wanted o (yielded ops a.tmps) = true then Oper.wpIn F n P o a w K Q else E := by
  have hw : Region.wanted o (yielded ops a.tmps) = true := by simp [Region.wanted, hgd]
  rw [if_pos hw]
  have hb2 : (k + 1) * bytes ≤ 140737488355328 := Nat.le_trans (Nat.mul_le_mul (by omega : k + 1 ≤ 1001) hb) (by decide)
  obtain ⟨g, cap, w', hr, h2, h3, -, -⟩ := run_append_lies (P := P) w t o.type base e i z 1 bytes ht hi hz hsize hby hzs (by omega) v k xs hown ad 1 c [u] rfl (fun j u' hj => by
    cases j with
    | zero =>
      simp at hj
      subst hj
      rw [show ad.add 0 = ad by unfold Addr.add; split <;> simp_all]
      exact hnew
    | succ j => simp at hj) (by simpa using h1) (by omega) (by unfold maxLen; omega) hb2 hbase _ rfl
  unfold Oper.wpIn
  refine ⟨by simp [Oper.about, ho, resolve, Target.leads, Sem.run_pure], ?_⟩
  rw [Oper.semAt_plain F _ _ (by rw [ho]; intro c hc'; cases hc')]
  simp [execOp, ho, resolve, invoke, builtin, hs, hx, hr, Result.andThen]
  exact h g cap w' h2 h3
theorem CKeep.kf {w : World} {a : Int} {A : Option Addr} {n c : Nat} {A' : Option Addr} {n' c' : Nat} {U U' : World} (h : CKeep U U') (k : KF w a A n c A' n' c' U) (hb : Below w.heap.size w U') : KF w a A n c A' n' c' U' :=
  ⟨h _ _ _ k.b2, h _ _ _ k.b3, h _ _ _ k.b4, hb⟩
theorem CKeep.grown {X Y : World} {row : Option Nat} (hg : X.grownBy Y row) (hr : ∀ r, row = some r → ∃ o : Obj, X.heap[r]? = some o ∧ o.isCells = false) : CKeep X Y := fun k cs t hk =>
  (grownBy_keeps_cells hg hr hk rfl).trans hk
def TakenAt (zs : List S46) (ls : List S39) (P : List Nat) (R m n q : Nat) (TN : List Nat) : Prop :=
  TN.length = m ∧ ∀ j, j < m → TN.getD j 0 + (ksTk (wdOf zs) (vOf ls) (P.take n).reverse q).count j = (ksTk (wdOf zs) (vOf ls) P.reverse R).count j
theorem take_rev {P : List Nat} {n : Nat} (h : n < P.length) : (P.take (n + 1)).reverse = P.getD n 0 :: (P.take n).reverse := by
  rw [List.take_succ_eq_append_getElem h, List.reverse_append]
  simp [List.getD, h]
theorem TakenAt.start (zs : List S46) (ls : List S39) (P : List Nat) (R m : Nat) : TakenAt zs ls P R m P.length R (List.replicate m 0) :=
  ⟨List.length_replicate, fun j hj => by rw [List.take_length]; simp [List.getD, List.getElem?_replicate, hj]⟩
theorem TakenAt.no {zs : List S46} {ls : List S39} {P : List Nat} {R m n q : Nat} {TN : List Nat} (h : TakenAt zs ls P R m (n + 1) q TN) (hn : n < P.length) (hc : ksCond (wdOf zs) (vOf ls) (P.take n).reverse (P.getD n 0) q = false) : TakenAt zs ls P R m n q TN :=
  ⟨h.1, fun j hj => by
    have := h.2 j hj
    rw [take_rev hn, ksTk, hc] at this
    exact this⟩
theorem TakenAt.yes {zs : List S46} {ls : List S39} {P : List Nat} {R m n q : Nat} {TN : List Nat} (h : TakenAt zs ls P R m (n + 1) q TN) (hn : n < P.length) (hc : ksCond (wdOf zs) (vOf ls) (P.take n).reverse (P.getD n 0) q = true) (hk : P.getD n 0 < m) :
    TakenAt zs ls P R m n (q - wdOf zs (P.getD n 0)) (TN.set (P.getD n 0) (TN.getD (P.getD n 0) 0 + 1)) :=
  ⟨by rw [List.length_set]; exact h.1, fun j hj => by
    have := h.2 j hj
    rw [take_rev hn, ksTk, hc, if_pos rfl] at this
    have hl := h.1
    generalize P.getD n 0 = k at *
    by_cases hjk : j = k
    · subst hjk
      rw [List.count_cons_self] at this
      have e : (TN.set j (TN.getD j 0 + 1)).getD j 0 = TN.getD j 0 + 1 := by
        simp [List.getD, hl, hj]
      rw [e]
      omega
    · rw [List.count_cons_of_ne (Ne.symm hjk)] at this
      have e : (TN.set k (TN.getD k 0 + 1)).getD j 0 = TN.getD j 0 := by
        simp only [List.getD]
        rw [List.getElem?_set_ne (Ne.symm hjk)]
      rw [e]
      exact this⟩
theorem TakenAt.fin {zs : List S46} {ls : List S39} {a : Int} {q : Nat} {TN : List Nat} (h : TakenAt zs ls (piecesOf zs ls) a.toNat zs.length 0 q TN) : bestT a zs ls = TN.map fun n : Nat => (n : Int) := by
  apply List.ext_getElem?
  intro j
  unfold bestT
  by_cases hj : j < zs.length
  · have h2 := h.2 j hj
    rw [List.take_zero, List.reverse_nil, ksTk, List.count_nil, Nat.add_zero] at h2
    rw [List.getElem?_map, List.getElem?_range hj, List.getElem?_map, List.getElem?_eq_getElem (by rw [h.1]; exact hj)]
    simp only [Option.map_some]
    rw [← h2]
    simp [List.getD, h.1, hj]
  · rw [List.getElem?_eq_none (by simp; omega), List.getElem?_eq_none (by simp [h.1]; omega)]
theorem pieces_lt {zs : List S46} {ls : List S39} {n : Nat} (h : n < (piecesOf zs ls).length) : (piecesOf zs ls).getD n 0 < zs.length := by
  have h1 : (piecesOf zs ls).getD n 0 ∈ piecesOf zs ls := by
    simp only [List.getD, List.getElem?_eq_getElem h, Option.getD_some]
    exact List.getElem_mem h
  exact List.mem_range.1 (ksPick_mem _ _ h1).1
theorem ints_at {W : World} {G : Nat} {TN : List Nat} (h : W.heap[G]? = some (.cells (TN.map fun n : Nat => Value.int .i64 (n : Int)).toArray 3 (0, 0))) {j : Nat} (hj : j < TN.length) : W.cell? ⟨G, j, none⟩ = some (.int .i64 ((TN.getD j 0 : Nat) : Int)) := by
  refine (z04q h j).trans ?_
  simp [List.getD, hj]
theorem ints_set {W : World} {G : Nat} {TN : List Nat} (h : W.heap[G]? = some (.cells (TN.map fun n : Nat => Value.int .i64 (n : Int)).toArray 3 (0, 0))) (j n : Nat) : (W.setCell ⟨G, j, none⟩ (.int .i64 (n : Int))).heap[G]? = some (.cells ((TN.set j n).map fun n : Nat => Value.int .i64 (n : Int)).toArray 3 (0, 0)) :=
  blk_put h j (.int .i64 (n : Int)) (by simp [List.setIfInBounds_toArray, List.map_set])
theorem rowL_at {zs : List S46} {ls : List S39} {P : List Nat} {N n q : Nat} (hq : q < N) : (rowL zs ls P N n)[q]? = some (ksCond (wdOf zs) (vOf ls) (P.take n).reverse (P.getD n 0) q) := by
  simp [rowL, List.getElem?_range hq]
theorem Tkeep.set4 {t t' : TypeId} {U : World} {b : Nat} {x' y' z' u' : Value} (hh : U.heap[b]? = some (.cells #[x', y', z', u'] t' (0, 0))) (hne : t' ≠ t) (x y z u : Value) : Tkeep t U (set4 U b x y z u) := by
  have h1 := blk_put hh 0 x rfl
  have h2 := blk_put h1 1 y rfl
  have h3 := blk_put h2 2 z rfl
  exact (((Tkeep.set (p := ⟨b, 0, none⟩) hh hne x).trans (Tkeep.set (p := ⟨b, 1, none⟩) h1 hne y)).trans (Tkeep.set (p := ⟨b, 2, none⟩) h2 hne z)).trans (Tkeep.set (p := ⟨b, 3, none⟩) h3 hne u)
theorem bestPost_done {w Z : World} {x : S39} {B1 B2 : Option Addr} {bc1 bc2 G : Nat} {TN : List Nat} (hE : EL w.heap.size Z x (.slice B1 x.f0.f1.length bc1) (.slice B2 x.f1.length bc2)) (hG : Z.heap[G]? = some (.cells (TN.map fun n : Nat => Value.int .i64 (n : Int)).toArray 3 (0, 0)))
    (hGb : w.heap.size ≤ G) (hm : TN.length ≤ 60) (hb : Below w.heap.size w Z) : BestPost w x.f0.f0 x.f0.f1 x.f1 (TN.map fun n : Nat => (n : Int)) 0 (.returned (.tuple #[.agg #[.bool x.f0.f0, .slice B1 x.f0.f1.length bc1, .slice B2 x.f1.length bc2, .slice (some ⟨G, 0, none⟩) TN.length TN.length], .int .i64 0])) Z := by
  have ne96 : ∀ k : Nat, (∃ q, q ∈ 96 :: (Kd.int .u32).E ∧ ∃ cells, Z.heap[k]? = some (.cells cells q (0, 0))) → some k ≠ (Value.slice (some ⟨G, 0, none⟩) TN.length TN.length).ownBlock := by
    rintro k ⟨q, hq, cells, hc⟩ e
    have hq' : q = 96 := by simpa [Kd.int, Kd.scalar] using hq
    have hk : k = G := by simpa [Value.ownBlock] using e
    subst hk hq'
    rw [hG] at hc
    simp at hc
  have own_ty : ∀ {v : Value} {xs : List Int} {ok : Nat → Prop}, Kd.R (Kd.int .u32) 96 Z w.heap.size ok v xs → some G ≠ v.ownBlock := fun h e => by
    obtain ⟨cells, hc⟩ := Kd.R_typed h G e.symm
    rw [hG] at hc
    simp at hc
  refine ⟨_, _, _, rfl, Kd.R_mono (Kd.R_bound hE.1) (fun k hk => ⟨hk.1, ne96 k hk.2.2.2⟩), Kd.R_mono (Kd.R_bound hE.2) (fun k hk => ⟨hk.1, ne96 k hk.2.2.2⟩), ?_, hb⟩
  refine R_of_own' (k := .i64) (xs := TN.map fun n : Nat => (n : Int)) ?_ (fun b hb' => ?_)
  · refine ⟨by simp, .inr ⟨G, TN.length, (TN.map fun n : Nat => Value.int .i64 (n : Int)).toArray, by simp, hGb, hG, by simp, by unfold maxLen; omega, by simp, ?_⟩⟩
    simp only [List.length_map, Nat.mul_one]
    rw [List.take_of_length_le (by simp), List.map_map]
    rfl
  · have hbG : b = G := by simpa [Value.ownBlock] using hb'.symm
    subst hbG
    exact ⟨own_ty hE.1, own_ty hE.2⟩
set_option maxHeartbeats 16000000 in
theorem knap_Best.main (a0_0 : Int) (A0_1 : Option Addr) (c0_1 : Nat) (l0_1 : List (S46)) (A1 : Option Addr) (c1 : Nat) (l1 : List (S39)) (w : World) (hr0_1 : Kd.C k46 w A0_1 l0_1.length l0_1) (hc0_1 : l0_1.length ≤ c0_1) (hr1 : Kd.C k39 w A1 l1.length l1)
    (hri : rightB a0_0 l0_1 = true) (hle : l1.length = l0_1.length) (ha5 : a0_0 ≤ 512) (hsu : sumN l0_1 ≤ 64) (hgo : l1.all goodS = true) :
    Calls Try.prog 11 #[.agg #[.int .i64 a0_0, .slice A0_1 l0_1.length c0_1], .slice A1 l1.length c1] w (BestPost w (toS (bestQ a0_0 l0_1 l1)).f0.f0 (toS (bestQ a0_0 l0_1 l1)).f0.f1 (toS (bestQ a0_0 l0_1 l1)).f1 (bestT a0_0 l0_1 l1) 0) := by
  have HR := Aside0.mk hr0_1
  have HC := Aside0.mk hc0_1
  have HR1 := Aside0.mk hr1
  have ha1 : 1 ≤ a0_0 := by
    unfold rightB at hri
    rw [Bool.and_eq_true, Bool.and_eq_true] at hri
    exact (of_decide_eq_true hri.1.1).1
  obtain ⟨N, hN⟩ : ∃ N : Nat, a0_0 + 1 = (N : Int) := ⟨(a0_0 + 1).toNat, by omega⟩
  have hN1 : 1 ≤ N := by omega
  have hN2 : N ≤ 513 := by omega
  have haN : a0_0 = ((N - 1 : Nat) : Int) := by omega
  obtain ⟨b2, b3, b4, hb0, hsz⟩ := four_boxes w a0_0 A0_1 A1 l0_1.length c0_1 l1.length c1
  obtain ⟨W, hW⟩ : ∃ W, ((w.alloc (.cells #[.int .i64 a0_0, .slice A0_1 l0_1.length c0_1] 24)).alloc (.cells #[.slice A1 l1.length c1] 25)).alloc (.cells #[.bool false, .slice none 0 0, .slice none 0 0, .slice none 0 0] 41) = W := ⟨_, rfl⟩
  rw [hW] at b2 b3 b4 hb0 hsz
  have HK0 : Aside0 (KF w a0_0 A0_1 l0_1.length c0_1 A1 l1.length c1 W) := ⟨⟨b2, b3, b4, hb0⟩⟩
  have HW : Hid (((w.alloc (.cells #[.int .i64 a0_0, .slice A0_1 l0_1.length c0_1] 24)).alloc (.cells #[.slice A1 l1.length c1] 25)).alloc (.cells #[.bool false, .slice none 0 0, .slice none 0 0, .slice none 0 0] 41) = W) := hW
  have cs0 : W.cell? ⟨w.heap.size, 0, none⟩ = some (.int .i64 a0_0) := (z26q b2).1
  have cs1 : W.cell? ⟨w.heap.size, 1, none⟩ = some (.slice A0_1 l0_1.length c0_1) := (z26q b2).2
  have HRT : Hid (stock_Right.f a0_0 l0_1 = some true) := by rw [right_f, hri]; rfl
  have HTT : Hid (stock_Total.f a0_0 l0_1 = some (sumN l0_1 : Int)) := by
    unfold stock_Total.f
    rw [hri, if_pos rfl]; rfl
  have e1 : ((l1.length : Int) == (l0_1.length : Int)) = true := by rw [beq_iff_eq]; omega
  have e2 : (l1.length == l0_1.length) = true := by rw [beq_iff_eq]; omega
  have e3 : ((l1.length : Int) != (l0_1.length : Int)) = false := by rw [bne, e1]; rfl
  have e4 : (l1.length != l0_1.length) = false := by rw [bne, e2]; rfl
  have hx1 : ¬ 512 < a0_0 := by omega
  have hx3 : ¬ (64 : Int) < (sumN l0_1 : Int) := by omega
  have HRI : Hid (rightB a0_0 l0_1 = true) := hri
  have HLE : Hid (l1.length = l0_1.length) := hle
  have HSU : Aside0 (sumN l0_1 ≤ 64) := ⟨hsu⟩
  have HGO : Hid (l1.all goodS = true) := hgo
  have HN : Hid (a0_0 + 1 = (N : Int)) := hN
  have HAN : Hid (a0_0 = ((N - 1 : Nat) : Int)) := haN
  have hmk := run_make_rats N (by omega)
  have hmx : Try.prog.follows .mixedOrders = true := by kernel_rfl
  clear hr0_1 hc0_1 hr1 b2 b3 b4 hb0 hsz hW hri hle hsu hgo haN
  refine (callsIn_wide (n := 8)).1 ?_
  refine callsIn_of_wp_marks Try.func11 rfl trivial ?_ rfl
  refine wpIn_noPanic ?_
  simp only [Try.ntmps11, List.size_toArray, List.length_cons, List.length_nil, Nat.reduceAdd, Nat.reduceSub, Array.replicate_succ, Array.replicate_zero, List.push_toArray, List.append_toArray, List.nil_append, List.cons_append]
  gi_wp2_with (first
    | (refine ⟨trivial, ?_⟩; gi_at_call 18; rw [HW.out]; refine (callsIn_wide.2 (stock_Right.calls a0_0 A0_1 c0_1 l0_1 true W (Kd.C_below HR.out HK0.out.bel) HC.out HRT.out)).mono ?_; rintro e w1 ⟨rfl, hb1⟩; have HK1 := Aside0.mk (HK0.out.below hb1); obtain ⟨s0, s1⟩ := z26q HK1.out.b2; have s2 := box1_cell HK1.out.b3; clear hb1 cs0 cs1)
    | (refine ⟨trivial, ?_⟩; gi_at_call 19; refine (callsIn_wide.2 (stock_Total.calls a0_0 A0_1 c0_1 l0_1 _ w1 (Kd.C_below HR.out HK1.out.bel) HC.out HTT.out)).mono ?_; rintro e w2 ⟨rfl, hb2⟩; have HK2 := Aside0.mk (HK1.out.below hb2); clear s0 s1 s2; obtain ⟨s0, s1⟩ := z26q HK2.out.b2; have s2 := box1_cell HK2.out.b3; clear hb2))
  rename World => w2
  have hz2 := HK2.out.sz
  have HBX : Aside0 (Boxed ((w2.alloc (.cells (madeCells #[.bool false, .slice none 0 0, .slice none 0 0] (N * 3)) 39)).alloc (.cells #[.slice (some ⟨w2.heap.size, 0, none⟩) N N] 25)) (w2.heap.size + 1) 25 (.slice (some ⟨w2.heap.size, 0, none⟩) N N)) := ⟨by
    have := Boxed.new (w2.alloc (.cells (madeCells #[.bool false, .slice none 0 0, .slice none 0 0] (N * 3)) 39)) 25 (.slice (some ⟨w2.heap.size, 0, none⟩) N N)
    rwa [World.size_alloc] at this⟩
  have HBA : Aside0 (BA w.heap.size ((w2.alloc (.cells (madeCells #[.bool false, .slice none 0 0, .slice none 0 0] (N * 3)) 39)).alloc (.cells #[.slice (some ⟨w2.heap.size, 0, none⟩) N N] 25)) w2.heap.size (filled (fun _ => toS 0) z39 N 0)) := ⟨by
    rw [filled_zero]
    exact BA.made (z05q (World.alloc_heap_new w2 _) _)⟩
  have HK3 : Aside0 (KF w a0_0 A0_1 l0_1.length c0_1 A1 l1.length c1 ((w2.alloc (.cells (madeCells #[.bool false, .slice none 0 0, .slice none 0 0] (N * 3)) 39)).alloc (.cells #[.slice (some ⟨w2.heap.size, 0, none⟩) N N] 25))) := ⟨HK2.out.below (((Below.refl _ w2).alloc (Nat.le_refl _) _).alloc (by simp) _)⟩
  clear s0 s1 s2
  obtain ⟨h0, hh0⟩ : ∃ h0, w2.heap.size = h0 := ⟨_, rfl⟩
  obtain ⟨b7, hb7⟩ : ∃ b7, h0 + 1 = b7 := ⟨_, rfl⟩
  have HH0 : Hid (w2.heap.size = h0) := hh0
  have HB7 : Hid (h0 + 1 = b7) := hb7
  rw [hh0] at HBX HBA HK3 hz2 ⊢
  rw [hb7] at HBX ⊢
  clear hh0 hb7
  gi_loopw [48] (fun s48 wr => ∃ i : Nat, s48 = .int .i64 (i : Int) ∧ i ≤ N ∧ Aside0 (KF w a0_0 A0_1 l0_1.length c0_1 A1 l1.length c1 wr ∧ Boxed wr b7 25 (.slice (some ⟨h0, 0, none⟩) N N) ∧ BA w.heap.size wr h0 (filled (fun _ => toS 0) z39 N i)))
    (fun s48 _ => N - (intOf s48).toNat)
  case atStart => exact ⟨0, rfl, Nat.zero_le _, ⟨HK3.out, HBX.out, HBA.out⟩⟩
  case round =>
    obtain ⟨i, rfl, hiN, hI⟩ := hrel
    by_cases hlt : i < N
    · have hltz : (i : Int) < (N : Int) := by omega
      have hi0 : (0 : Int) ≤ (i : Int) := Int.natCast_nonneg _
      have c7 := hI.out.2.1.cell
      gi_wp2
      have hS0 : wr.drew.cell? ⟨b7, 0, none⟩ = some (.slice (some ⟨h0, 0, none⟩) N N) := c7
      refine wpIn_region_held (fun w' => w'.cell? ⟨b7, 0, none⟩ = some (.slice (some ⟨h0, 0, none⟩) N N)) hmx ?_
      show wpAnyHIn _ _ _ _ _ _ _ 6 #[false, false, false, false, false, false] _ _
      refine z12q (i := 0) (v := .slice (some ⟨h0, 0, none⟩) N N) (dst := 51) (by kernel_rfl) rfl rfl (by kernel_rfl) (by kernel_rfl) (by kernel_rfl) (fun _ _ _ h => h) ⟨Or.inl ⟨by rfl, fun w' hw' => ?_⟩, fun _ => rfl⟩ hS0 ?_
      · (have hw1 := hw'; go_simp)
      simp only [sT_]
      refine z12q (i := 1) (v := .int .i64 (i : Int)) (dst := 52) (by kernel_rfl) rfl rfl (by kernel_rfl) (by kernel_rfl) (by kernel_rfl) (fun _ _ _ h => h) ⟨Or.inl ⟨by rfl, fun w' hw' => ?_⟩, fun _ => rfl⟩ hS0 ?_
      · go_simp
      simp only [sT_]
      refine z12q (i := 2) (v := .func (.func 20) #[] #[]) (dst := 53) (by kernel_rfl) rfl rfl (by kernel_rfl) (by kernel_rfl) (by kernel_rfl) (fun _ _ _ h => h) ⟨Or.inl ⟨by rfl, fun w' hw' => ?_⟩, fun _ => rfl⟩ hS0 ?_
      · go_simp
      simp only [sT_]
      refine z20q (i := 3) (by kernel_rfl) rfl (fun K hK => ?_)
      go_simp
      refine ⟨trivial, ?_⟩
      refine (callsIn_wide.2 (knap_zero.calls _)).mono ?_
      rintro e w3 ⟨A3, c3, A4, c4, rfl, hE, hb3⟩
      have hbd : Below wr.heap.size wr w3 := ((Below.refl _ wr).drew).trans hb3
      have HI3 : Aside0 (KF w a0_0 A0_1 l0_1.length c0_1 A1 l1.length c1 w3 ∧ Boxed w3 b7 25 (.slice (some ⟨h0, 0, none⟩) N N) ∧ BA w.heap.size w3 h0 (filled (fun _ => toS 0) z39 N i) ∧ EL w.heap.size w3 (toS 0) (.slice A3 (toS 0).f0.f1.length c3) (.slice A4 (toS 0).f1.length c4)) := ⟨hI.out.1.below hbd, boxed_below hI.out.2.1 hbd, hI.out.2.2.below hbd, hE.lower (show w.heap.size ≤ wr.heap.size by have := hI.out.1.sz; omega)⟩
      have hS1 : w3.cell? ⟨b7, 0, none⟩ = some (.slice (some ⟨h0, 0, none⟩) N N) := HI3.out.2.1.cell
      clear hE hb3 hbd
      obtain ⟨B3, B4, n3, n4, g0, g1, g2, -⟩ := HI3.out.2.2.1.at (filled_at (fun _ => toS 0) z39 N i hlt)
      have f0 := HI3.out.2.2.1.frozen (i * 3)
      have f1 := HI3.out.2.2.1.frozen (i * 3 + 1)
      have f2 := HI3.out.2.2.1.frozen (i * 3 + 2)
      refine hK _ _ hS1 ?_
      clear hK K hS0 c7
      simp only [sT_]
      refine z12q (i := 4) (v := .pointer (some ⟨h0, i * 3, none⟩)) (dst := 55) (by kernel_rfl) rfl rfl (by kernel_rfl) (by kernel_rfl) (by kernel_rfl) (fun _ _ _ h => h) ⟨Or.inl ⟨by rfl, fun w' hw' => ?_⟩, fun _ => rfl⟩ hS1 ?_
      · (have hw1 := hw'; go_simp)
      simp only [sT_]
      have HS3 : Aside0 (KF w a0_0 A0_1 l0_1.length c0_1 A1 l1.length c1 (set3 w3 h0 i (.bool (toS 0).f0.f0) (.slice A3 (toS 0).f0.f1.length c3) (.slice A4 (toS 0).f1.length c4)) ∧ Boxed (set3 w3 h0 i (.bool (toS 0).f0.f0) (.slice A3 (toS 0).f0.f1.length c3) (.slice A4 (toS 0).f1.length c4)) b7 25 (.slice (some ⟨h0, 0, none⟩) N N) ∧ BA w.heap.size (set3 w3 h0 i (.bool (toS 0).f0.f0) (.slice A3 (toS 0).f0.f1.length c3) (.slice A4 (toS 0).f1.length c4)) h0 (filled (fun _ => toS 0) z39 N (i + 1))) := ⟨HI3.out.1.set3 (by have := HK2.out.sz; have := HH0.out; omega) _ _ _ _, (set3_other w3 (by have := HB7.out; omega) _ _ _ _).trans HI3.out.2.1, by
        have := HI3.out.2.2.1.set (by rw [filled_length]; exact hlt) HI3.out.2.2.2
        rwa [filled_set (fun _ => toS 0) z39 N i] at this⟩
      have hS2 : (set3 w3 h0 i (.bool (toS 0).f0.f0) (.slice A3 (toS 0).f0.f1.length c3) (.slice A4 (toS 0).f1.length c4)).cell? ⟨b7, 0, none⟩ = some (.slice (some ⟨h0, 0, none⟩) N N) := HS3.out.2.1.cell
      unfold set3 at hS2
      refine z20q (i := 5) (by kernel_rfl) rfl (fun K hK => ?_)
      go_simp
      refine hK _ _ hS2 ?_
      clear hK K
      simp only [sT_]
      refine wpAnyHIn_done (by kernel_rfl) ?_
      clear g0 g1 g2 f0 f1 f2 hS1 hS2
      gi_wp2
      go_roundw
      case rel => exact ⟨i + 1, by go_num, by omega, HS3⟩
      case measure => simp [intOf]; omega
    · obtain rfl : N = i := by omega
      have hltz : ¬ (N : Int) < (N : Int) := by omega
      clear hlt hiN
      rename World => u2
      have HBE : Aside0 (BA w.heap.size u2 h0 (bestL l0_1 l1 [] N)) := ⟨by
        have h1 := hI.out.2.2
        rw [filled_all] at h1
        exact h1⟩
      have hz3 := hI.out.1.sz
      have hbb : Below u2.heap.size u2 ((u2.alloc (.cells #[.slice none 0 0] 29)).alloc (.cells #[.slice none 0 0] 59)) := ((Below.refl _ u2).alloc (Nat.le_refl _) _).alloc (by simp) _
      have HK4 := Aside0.mk (hI.out.1.below hbb)
      obtain ⟨s0, s1⟩ := z26q HK4.out.b2
      have s2 := box1_cell HK4.out.b3
      clear hbb
      gi_wp2_with (first | (refine ⟨trivial, ?_⟩; gi_at_call 22; refine (knap_pieces.in_ 7 a0_0 A0_1 l0_1.length c0_1 A1 l1.length c1 _).mono ?_; rintro e w' ⟨rfl, rfl⟩))
      obtain ⟨b9, hb9⟩ : ∃ b9, u2.heap.size = b9 := ⟨_, rfl⟩
      have q9 := World.alloc_heap_new u2 (.cells #[.slice none 0 0] 29)
      have q10 := World.alloc_heap_new (u2.alloc (.cells #[.slice none 0 0] 29)) (.cells #[.slice none 0 0] 59)
      have qs := World.alloc_heap_new ((u2.alloc (.cells #[.slice none 0 0] 29)).alloc (.cells #[.slice none 0 0] 59)) (.cells #[.int .i64 a0_0, .slice A0_1 l0_1.length c0_1] 24)
      have qw := World.alloc_heap_new (((u2.alloc (.cells #[.slice none 0 0] 29)).alloc (.cells #[.slice none 0 0] 59)).alloc (.cells #[.int .i64 a0_0, .slice A0_1 l0_1.length c0_1] 24)) (.cells #[.slice A1 l1.length c1] 25)
      simp only [World.size_alloc] at q9 q10 qs qw
      obtain ⟨W5, hW5⟩ : ∃ W5, (((u2.alloc (.cells #[.slice none 0 0] 29)).alloc (.cells #[.slice none 0 0] 59)).alloc (.cells #[.int .i64 a0_0, .slice A0_1 l0_1.length c0_1] 24)).alloc (.cells #[.slice A1 l1.length c1] 25) = W5 := ⟨_, rfl⟩
      have hb5 : Below u2.heap.size u2 W5 := by rw [← hW5]; exact ((((Below.refl _ u2).alloc (Nat.le_refl _) _).alloc (by simp) _).alloc (by simp; omega) _).alloc (by simp; omega) _
      have hz5 : W5.heap.size = b9 + 4 := by rw [← hW5, ← hb9]; simp
      have HQ : Aside0 (W5.heap[b9]? = some (.cells #[.slice none 0 0] 29 (0, 0)) ∧ W5.heap[b9 + 1]? = some (.cells #[.slice none 0 0] 59 (0, 0)) ∧ W5.heap[b9 + 1 + 1]? = some (.cells #[.int .i64 a0_0, .slice A0_1 l0_1.length c0_1] 24 (0, 0)) ∧ W5.heap[b9 + 1 + 1 + 1]? = some (.cells #[.slice A1 l1.length c1] 25 (0, 0))) := ⟨by
        rw [← hW5, ← hb9]
        exact ⟨z05q (z05q (z05q q9 _) _) _, z05q (z05q q10 _) _, z05q qs _, qw⟩⟩
      have HK5 := Aside0.mk (hI.out.1.below hb5)
      have HX5 : Aside0 (Boxed W5 b7 25 (.slice (some ⟨h0, 0, none⟩) N N) ∧ BA w.heap.size W5 h0 (bestL l0_1 l1 [] N)) := ⟨boxed_below hI.out.2.1 hb5, HBE.out.below hb5⟩
      have hb79 : b7 < b9 := by
        have := hI.out.2.1.lt
        omega
      have hbn : w.heap.size + 1 + 1 < h0 ∧ h0 + 1 = b7 := ⟨by have := HK2.out.sz; have := HH0.out; omega, HB7.out⟩
      have HW5 : Hid ((((u2.alloc (.cells #[.slice none 0 0] 29)).alloc (.cells #[.slice none 0 0] 59)).alloc (.cells #[.int .i64 a0_0, .slice A0_1 l0_1.length c0_1] 24)).alloc (.cells #[.slice A1 l1.length c1] 25) = W5) := hW5
      rw [hW5]
      rw [hb9]
      clear q9 q10 qs qw hb5 s0 s1 s2 HK4 hI HBE HBX HBA HK3 HK2 HK1 HK0 HRT HTT hW5 HW5
      generalize hfr : List.toArray (Value.agg _ :: _) = fr
      have hst := knap_pieces.stops 7 (by omega) (b9 + 1 + 1) (b9 + 1 + 1 + 1) a0_0 A0_1 c0_1 l0_1 A1 c1 l1 (fun i => decide (0 < vOf l1 i)) w W5 HR.out HR1.out (by
        have := HRI.out
        unfold rightB at this
        rw [Bool.and_eq_true] at this
        exact this.2) HLE.out.symm (signs_all HGO.out) HK5.out.bel HQ.out.2.2.1 HQ.out.2.2.2
      refine wpIn_rangeFunc_ownG (n := 8) rfl (by decide) (gf := 39) (lb := #[.pointer (some ⟨b9 + 1 + 1, 0, none⟩), .pointer (some ⟨b9 + 1 + 1 + 1, 0, none⟩)]) (by rw [← hfr]; rfl) trivial (enters_of Try.func39 (by kernel_rfl) rfl)
        hst KpP.t (KpP.b (Nat.le_of_lt (Nat.lt_of_lt_of_le (by omega) (Nat.le_of_lt HK5.out.sz))) (by omega) (by omega)) (Below.refl _ _) (fun _ => rfl)
        (fun pre U => KL w.heap.size b7 b9 (b9 + 1) N l0_1 l1 (pre.map Fin.val) U ∧ KF w a0_0 A0_1 l0_1.length c0_1 A1 l1.length c1 U ∧ W5.heap.size ≤ U.heap.size ∧ U.heap[b9 + 1 + 1]? = some (.cells #[.int .i64 a0_0, .slice A0_1 l0_1.length c0_1] 24 (0, 0)) ∧ U.heap[b9 + 1 + 1 + 1]? = some (.cells #[.slice A1 l1.length c1] 25 (0, 0)))
        (fun _ _ _ => False)
        (fun s X Y row hs hg hr => ⟨hs.1.keep (CKeep.grown hg (fun r e => (hr r e).2)), CKeep.kf (CKeep.grown hg (fun r e => (hr r e).2)) hs.2.1 (hs.2.1.bel.grown hg hs.2.1.bel.size (fun k e => by have := (hr k e).1; omega)), Nat.le_trans hs.2.2.1 hg.size, CKeep.grown hg (fun r e => (hr r e).2) _ _ _ hs.2.2.2.1, CKeep.grown hg (fun r e => (hr r e).2) _ _ _ hs.2.2.2.2⟩)
        (fun _ _ _ _ _ hs _ _ => hs)
        ⟨⟨⟨h0, HX5.out.1, HX5.out.2⟩, ⟨_, HQ.out.1, World.ownsRow_nil _ _ _ _⟩, ⟨_, [], HQ.out.2.1, World.ownsRow_nil _ _ _ _, rfl, fun j g hg => by simp at hg⟩⟩, HK5.out, Nat.le_refl _, HQ.out.2.2.1, HQ.out.2.2.2⟩
        (fun x => { tmps := (fr.setIfInBounds 60 (.int .i64 (x.1 : Int))).setIfInBounds 11 (.int .i64 (x.1 : Int)), defers := [] }) ?assign ?body ?done ?stop
      case assign =>
        intro l x U K hK
        simp only [List.zip_toArray, List.zip_cons_cons, List.zip_nil_left, List.zip_nil_right, List.foldl_toArray', List.foldl_toArray, List.foldl_cons, List.foldl_nil]
        rw [← hfr] at hK ⊢
        simp only [sT_] at hK ⊢
        gi_wp2
        exact hK
      case body =>
        rintro l pre x U ⟨hkl, hkf, hzU, hbs, hbw⟩ hlen
        have HBSW := Aside0.mk (And.intro hbs hbw)
        clear hbs hbw
        rw [← hfr]
        simp only [sT_]
        have HKL := Aside0.mk hkl
        have HKF := Aside0.mk hkf
        obtain ⟨⟨hc, hbx, hba⟩, -, -⟩ := hkl
        have HBA := Aside0.mk hba
        have c7 := hbx.cell
        have hb7U := hbx.lt
        have hmkb := run_make_row' (P := Try.prog) 62 4 (.bool false) 1 Try.underlying62 (by kernel_rfl) rfl .i64 .i64 N (by omega) (by omega)
        clear hkf hba hbx
        gi_wp2
        clear hmkb
        have hUU : Below U.heap.size U ((U.alloc (.cells (madeCells #[.bool false, .slice none 0 0, .slice none 0 0] (N * 3)) 39)).alloc (.cells (madeCells #[.bool false] N) 4)) := ((Below.refl _ U).alloc (Nat.le_refl _) _).alloc (by simp) _
        have HJ0 : Aside0 (Below U.heap.size U ((U.alloc (.cells (madeCells #[.bool false, .slice none 0 0, .slice none 0 0] (N * 3)) 39)).alloc (.cells (madeCells #[.bool false] N) 4)) ∧ BA w.heap.size ((U.alloc (.cells (madeCells #[.bool false, .slice none 0 0, .slice none 0 0] (N * 3)) 39)).alloc (.cells (madeCells #[.bool false] N) 4)) U.heap.size (filled (fun w => toS (ksVal (wdOf l0_1) (vOf l1) (x.1 :: (pre.map Fin.val).reverse) w)) z39 N 0) ∧ BR ((U.alloc (.cells (madeCells #[.bool false, .slice none 0 0, .slice none 0 0] (N * 3)) 39)).alloc (.cells (madeCells #[.bool false] N) 4)) (U.heap.size + 1) (filled (fun w => ksCond (wdOf l0_1) (vOf l1) (pre.map Fin.val).reverse x.1 w) false N 0)) := ⟨by
          refine ⟨hUU, ?_, ?_⟩
          · rw [filled_zero]
            exact BA.made (z05q (World.alloc_heap_new U _) _)
          · rw [filled_zero]
            have := World.alloc_heap_new (U.alloc (.cells (madeCells #[.bool false, .slice none 0 0, .slice none 0 0] (N * 3)) 39)) (.cells (madeCells #[.bool false] N) 4)
            rw [World.size_alloc] at this
            refine this.trans ?_
            rw [made_bools]⟩
        clear hUU
        gi_loopw [69] (fun s69 wr => ∃ j : Nat, s69 = .int .i64 (j : Int) ∧ j ≤ N ∧ Aside0 (Below U.heap.size U wr ∧ BA w.heap.size wr U.heap.size (filled (fun w => toS (ksVal (wdOf l0_1) (vOf l1) (x.1 :: (pre.map Fin.val).reverse) w)) z39 N j) ∧ BR wr (U.heap.size + 1) (filled (fun w => ksCond (wdOf l0_1) (vOf l1) (pre.map Fin.val).reverse x.1 w) false N j)))
          (fun s69 _ => N - (intOf s69).toNat)
        case atStart => exact ⟨0, rfl, Nat.zero_le _, HJ0⟩
        case round =>
          obtain ⟨j, rfl, hjN, hJ⟩ := hrel
          by_cases hjt : j < N
          · have hjt' : (j : Int) < (N : Int) := by omega
            have hj0 : (0 : Int) ≤ (j : Int) := Int.natCast_nonneg _
            have hUw := hJ.out.1
            have HKFw := Aside0.mk (HKF.out.below hUw)
            have c7w := z15q hUw c7
            have hbaw := HBA.out.below hUw
            obtain ⟨P1, p1, P2, p2, k0, k1, k2, hEj⟩ := hbaw.at (bestL_at hjt)
            obtain ⟨qj, hqj⟩ : ∃ q, ksVal (wdOf l0_1) (vOf l1) (pre.map Fin.val).reverse j = q := ⟨_, rfl⟩
            rw [hqj] at k0 k1 k2 hEj
            have HQJ : Hid (ksVal (wdOf l0_1) (vOf l1) (pre.map Fin.val).reverse j = qj) := hqj
            obtain ⟨Z1, zc1, Z2, zc2, n0, n1, n2, -⟩ := hJ.out.2.1.at (filled_at _ _ _ _ hjt)
            have nf0 := hJ.out.2.1.frozen (j * 3)
            have nf1 := hJ.out.2.1.frozen (j * 3 + 1)
            have nf2 := hJ.out.2.1.frozen (j * 3 + 2)
            obtain ⟨s0, s1⟩ := z26q HKFw.out.b2
            have s2 := box1_cell HKFw.out.b3
            obtain ⟨ad, e0, hx0, hx1⟩ := at_T46 (Kd.C_below HR.out HKFw.out.bel) (x.1 : Int) (by omega) (by have := x.2; omega)
            cases e0
            rw [show ((x.1 : Int)).toNat = x.1 from rfl] at hx0 hx1
            obtain ⟨y, hy⟩ : ∃ y, rd_T46 l0_1 (x.1 : Int) = y := ⟨_, rfl⟩
            rw [hy] at hx0 hx1
            have hyb : itemB y = true := by
              rw [← hy]
              refine item_at ?_ x.2
              have := HRI.out
              unfold rightB at this
              rw [Bool.and_eq_true] at this
              exact this.2
            have hyb2 := of_decide_eq_true hyb
            obtain ⟨wf, hwf⟩ : ∃ f : Nat, y.f0 = (f : Int) := ⟨y.f0.toNat, by omega⟩
            have HWF : Hid (wdOf l0_1 x.1 = wf) := by
              show (rd_T46 l0_1 (x.1 : Int)).f0.toNat = wf
              rw [hy, hwf]; rfl
            have hwf1 : 1 ≤ wf := by omega
            rw [hwf] at hx0
            have hxl : (x.1 : Int) < (l0_1.length : Int) := by have := x.2; omega
            have hx00 : (0 : Int) ≤ (x.1 : Int) := Int.natCast_nonneg _
            have HBV : Aside0 (BA w.heap.size (set3 wr U.heap.size j (.bool (toS qj).f0.f0) (.slice P1 (toS qj).f0.f1.length p1) (.slice P2 (toS qj).f1.length p2)) U.heap.size ((filled (fun w => toS (ksVal (wdOf l0_1) (vOf l1) (x.1 :: (pre.map Fin.val).reverse) w)) z39 N j).set j (toS qj))) := ⟨hJ.out.2.1.set (by rw [filled_length]; exact hjt) hEj⟩
            have HVB : Aside0 (Below U.heap.size U (set3 wr U.heap.size j (.bool (toS qj).f0.f0) (.slice P1 (toS qj).f0.f1.length p1) (.slice P2 (toS qj).f1.length p2))) := ⟨((hUw.setCell (p := ⟨U.heap.size, j * 3, none⟩) (Nat.le_refl _) _).setCell (p := ⟨U.heap.size, j * 3 + 1, none⟩) (Nat.le_refl _) _).setCell (p := ⟨U.heap.size, j * 3 + 2, none⟩) (Nat.le_refl _) _⟩
            have HBR : Aside0 (BR (set3 wr U.heap.size j (.bool (toS qj).f0.f0) (.slice P1 (toS qj).f0.f1.length p1) (.slice P2 (toS qj).f1.length p2)) (U.heap.size + 1) (filled (fun w => ksCond (wdOf l0_1) (vOf l1) (pre.map Fin.val).reverse x.1 w) false N j)) := ⟨(set3_other wr (by omega) _ _ _ _).trans hJ.out.2.2⟩
            have hne2 : ad.block < U.heap.size := by
              obtain ⟨ad', e', hh1, hh2⟩ := at_T46 HR.out (x.1 : Int) (by omega) (by omega)
              cases e'
              have h9 := World.block_lt_of_cell? w _ hh1
              rw [blk_add] at h9
              have := HKF.out.sz
              omega
            have HRO : Hid (rd_T46 l0_1 (x.1 : Int) = y) := hy
            have HHX : Hid (ad.block < U.heap.size) := hne2
            have v0 : (set3 wr U.heap.size j (.bool (toS qj).f0.f0) (.slice P1 (toS qj).f0.f1.length p1) (.slice P2 (toS qj).f1.length p2)).cell? ⟨w.heap.size, 1, none⟩ = some (.slice (some ad) l0_1.length c0_1) := (z26q (HKF.out.below HVB.out).b2).2
            have v1 : (set3 wr U.heap.size j (.bool (toS qj).f0.f0) (.slice P1 (toS qj).f0.f1.length p1) (.slice P2 (toS qj).f1.length p2)).cell? (ad.add (x.1 * 2)) = some (.int .i64 (wf : Int)) := by
              refine (World.cell?_of_block (set3_other wr ?_ _ _ _ _)).trans hx0
              rw [blk_add]; omega
            unfold set3 at v0 v1
            clear hyb hyb2 hwf hx1 hqj hne2 hy
            by_cases hjw : j < wf
            · have hjw' : (j : Int) < (wf : Int) := by omega
              have hsk := ks_skip (wd := wdOf l0_1) (v := vOf l1) (qs := (pre.map Fin.val).reverse) (k := x.1) (j := j) (by rw [HWF.out]; omega)
              have HSK := Aside0.mk hsk
              clear hsk
              gi_wp2
              refine ⟨⟨j + 1, by go_num, by omega, ⟨HVB.out, ?_, ?_⟩⟩, by simp [intOf]; omega⟩
              · have h1 := HBV.out
                rw [← HQJ.out, ← HSK.out.1, filled_set (fun w => toS (ksVal (wdOf l0_1) (vOf l1) (x.1 :: (pre.map Fin.val).reverse) w)) z39 N j] at h1
                rw [← HQJ.out, ← HSK.out.1]
                exact h1
              · rw [← filled_skip _ _ _ _ HSK.out.2]
                exact HBR.out
            · have hjw' : ¬ (j : Int) < (wf : Int) := by omega
              gi_wp2
              obtain ⟨V, hV⟩ : ∃ V, set3 wr U.heap.size j (.bool (toS qj).f0.f0) (.slice P1 (toS qj).f0.f1.length p1) (.slice P2 (toS qj).f1.length p2) = V := ⟨_, rfl⟩
              rw [hV] at HBV HVB HBR
              unfold set3 at hV
              rw [hV]
              rw [hV] at v0 v1
              clear hV n0 n1 n2 nf0 nf1 nf2 k0 k1 k2 hEj hUw c7w hbaw s0 s1 s2 hx0
              have c7V := z15q HVB.out c7
              have s2V := box1_cell (HKF.out.below HVB.out).b3
              obtain ⟨d, hd⟩ : ∃ d, j = d + wf := ⟨j - wf, by omega⟩
              have hdN : d < N := by omega
              obtain ⟨qd, hqd⟩ : ∃ q, ksVal (wdOf l0_1) (vOf l1) (pre.map Fin.val).reverse d = q := ⟨_, rfl⟩
              have hbaV := HBA.out.below HVB.out
              obtain ⟨D1, d1, D2, d2, a0, a1, a2, hEd⟩ := hbaV.at (bestL_at hdN)
              rw [hqd] at a0 a1 a2 hEd
              have HQD : Hid (ksVal (wdOf l0_1) (vOf l1) (pre.map Fin.val).reverse d = qd) := hqd
              obtain ⟨ad', W1, w1, W2, w2', e0, r0, r1, r2, wl1, wC1, wl2, wC2⟩ := at_T39 (Kd.C_below HR1.out (HKF.out.below HVB.out).bel) (x.1 : Int) (by omega) (by have := HLE.out; omega)
              cases e0
              rw [show ((x.1 : Int)).toNat = x.1 from rfl] at r0 r1 r2
              obtain ⟨rx, hrx⟩ : ∃ q, rd_T39 l1 (x.1 : Int) = q := ⟨_, rfl⟩
              rw [hrx] at r0 r1 r2 wl1 wC1 wl2 wC2
              have hgx : goodS rx = true := by
                rw [← hrx]
                exact good_at HGO.out (by have := HLE.out; omega)
              have hvx : vOf l1 x.1 = vS rx := by
                show vS (rd_T39 l1 (x.1 : Int)) = _
                rw [hrx]
              have hpl : pre.length < 65 := by
                have h1 := pickB_sum (fun i => decide (0 < vOf l1 i)) l0_1 l0_1.length (Nat.le_refl _)
                rw [List.take_length] at h1
                have := HSU.out
                omega
              have hsd : sq qd ≤ 1000 := by rw [← hqd]; exact Nat.le_trans (sq_pre pre (by have := HLE.out; omega) HGO.out hpl d) (by omega)
              have hsj : sq qj ≤ 1000 := by rw [← HQJ.out]; exact Nat.le_trans (sq_pre pre (by have := HLE.out; omega) HGO.out hpl j) (by omega)
              have hsz : sq (qd + vS rx) ≤ 1000 := by
                have h1 := sq_add qd (vS rx)
                have h2 := goodS_sq hgx
                have h3 : sq qd ≤ 257 := by rw [← hqd]; exact sq_pre pre (by have := HLE.out; omega) HGO.out hpl d
                omega
              obtain ⟨ka, hka⟩ := add_some hsd hgx
              have HKA : Hid (rat_Add.f ka (toS qd).f0.f0 (toS qd).f0.f1 (toS qd).f1 rx.f0.f0 rx.f0.f1 rx.f1 = some ((toS (qd + vS rx)).f0.f0, (toS (qd + vS rx)).f0.f1, (toS (qd + vS rx)).f1)) := hka
              obtain ⟨qz, hqz⟩ : ∃ q, qd + vS rx = q := ⟨_, rfl⟩
              rw [hqz] at HKA hsz
              have HQZ : Hid (qd + vOf l1 x.1 = qz) := by rw [hvx]; exact hqz
              have HSS := Aside0.mk (And.intro hsj hsz)
              have HED := Aside0.mk hEd.C
              have HWC := Aside0.mk (And.intro (And.intro wl1 wC1) (And.intro wl2 wC2))
              have hsub1 : (j : Int) - (wf : Int) = (d : Int) := by omega
              have hsub2 : IntKind.i64.wrap ((j : Int) - (wf : Int)) = (d : Int) := by rw [hsub1, IntKind.wrap_i64]; omega
              have hsub3 : IntKind.i64.wrap (d : Int) = (d : Int) := by rw [IntKind.wrap_i64]; omega
              have hd0 : (0 : Int) ≤ (d : Int) := Int.natCast_nonneg _
              have hdN' : (d : Int) < (N : Int) := by omega
              have hx2 : (x.1 : Int) < (l1.length : Int) := by have := HLE.out; omega
              have HD : Hid (j = d + wf) := hd
              have HPL := Aside0.mk hpl
              clear hka hqz hvx hgx hrx hsd hsj hsz hpl hEd wl1 wC1 wl2 wC2 hqd hbaV hd
              have hS0 : Below V.heap.size V V.drew := (Below.refl _ V).drew
              refine wpIn_region_held (fun w' => BelowS V w') hmx ?_
              show wpAnyHIn _ _ _ _ _ _ _ 18 #[false, false, false, false, false, false, false, false, false, false, false, false, false, false, false, false, false, false] _ _
              refine z12q (i := 0) (v := .slice (some ⟨hc, 0, none⟩) N N) (dst := 87) (by kernel_rfl) rfl rfl (by kernel_rfl) (by kernel_rfl) (by kernel_rfl) (fun _ _ _ h => h) ⟨Or.inl ⟨by rfl, fun w' hw' => ?_⟩, fun _ => rfl⟩ hS0 ?_
              · (have gg0 := z15q hw' c7V; go_simp)
              simp only [sT_]
              refine z12q (i := 1) (v := .int .i64 (j : Int)) (dst := 88) (by kernel_rfl) rfl rfl (by kernel_rfl) (by kernel_rfl) (by kernel_rfl) (fun _ _ _ h => h) ⟨Or.inl ⟨by rfl, fun w' hw' => ?_⟩, fun _ => rfl⟩ hS0 ?_
              · (go_simp)
              simp only [sT_]
              refine z12q (i := 2) (v := .pointer (some ⟨w.heap.size, 1, none⟩)) (dst := 89) (by kernel_rfl) rfl rfl (by kernel_rfl) (by kernel_rfl) (by kernel_rfl) (fun _ _ _ h => h) ⟨Or.inl ⟨by rfl, fun w' hw' => ?_⟩, fun _ => rfl⟩ hS0 ?_
              · (go_simp)
              simp only [sT_]
              refine z12q (i := 3) (v := .slice (some ad) l0_1.length c0_1) (dst := 90) (by kernel_rfl) rfl rfl (by kernel_rfl) (by kernel_rfl) (by kernel_rfl) (fun _ _ _ h => h) ⟨Or.inl ⟨by rfl, fun w' hw' => ?_⟩, fun _ => rfl⟩ hS0 ?_
              · (have gg0 := z15q hw' v0; go_simp)
              simp only [sT_]
              refine z12q (i := 4) (v := .int .i64 (x.1 : Int)) (dst := 91) (by kernel_rfl) rfl rfl (by kernel_rfl) (by kernel_rfl) (by kernel_rfl) (fun _ _ _ h => h) ⟨Or.inl ⟨by rfl, fun w' hw' => ?_⟩, fun _ => rfl⟩ hS0 ?_
              · (go_simp)
              simp only [sT_]
              refine z12q (i := 5) (v := .pointer (some (ad.add (x.1 * 2)))) (dst := 92) (by kernel_rfl) rfl rfl (by kernel_rfl) (by kernel_rfl) (by kernel_rfl) (fun _ _ _ h => h) ⟨Or.inl ⟨by rfl, fun w' hw' => ?_⟩, fun _ => rfl⟩ hS0 ?_
              · (go_simp)
              simp only [sT_]
              refine z12q (i := 6) (v := .pointer (some (ad.add (x.1 * 2)))) (dst := 93) (by kernel_rfl) rfl rfl (by kernel_rfl) (by kernel_rfl) (by kernel_rfl) (fun _ _ _ h => h) ⟨Or.inl ⟨by rfl, fun w' hw' => ?_⟩, fun _ => rfl⟩ hS0 ?_
              · (go_simp)
              simp only [sT_]
              refine z12q (i := 7) (v := .int .i64 (wf : Int)) (dst := 94) (by kernel_rfl) rfl rfl (by kernel_rfl) (by kernel_rfl) (by kernel_rfl) (fun _ _ _ h => h) ⟨Or.inl ⟨by rfl, fun w' hw' => ?_⟩, fun _ => rfl⟩ hS0 ?_
              · (have gg0 := z15q hw' v1; go_simp)
              simp only [sT_]
              refine z12q (i := 8) (v := .int .i64 (d : Int)) (dst := 95) (by kernel_rfl) rfl rfl (by kernel_rfl) (by kernel_rfl) (by kernel_rfl) (fun _ _ _ h => h) ⟨Or.inl ⟨by rfl, fun w' hw' => ?_⟩, fun _ => rfl⟩ hS0 ?_
              · (go_simp)
              simp only [sT_]
              refine z12q (i := 9) (v := .pointer (some ⟨hc, d * 3, none⟩)) (dst := 96) (by kernel_rfl) rfl rfl (by kernel_rfl) (by kernel_rfl) (by kernel_rfl) (fun _ _ _ h => h) ⟨Or.inl ⟨by rfl, fun w' hw' => ?_⟩, fun _ => rfl⟩ hS0 ?_
              · (go_simp)
              simp only [sT_]
              refine z12q (i := 10) (v := .agg #[.bool (toS qd).f0.f0, .slice D1 (toS qd).f0.f1.length d1, .slice D2 (toS qd).f1.length d2]) (dst := 97) (by kernel_rfl) rfl rfl (by kernel_rfl) (by kernel_rfl) (by kernel_rfl) (fun _ _ _ h => h) ⟨Or.inl ⟨by rfl, fun w' hw' => ?_⟩, fun _ => rfl⟩ hS0 ?_
              · (have gg0 := z15q hw' a0; have gg1 := z15q hw' a1; have gg2 := z15q hw' a2; go_simp)
              simp only [sT_]
              refine z12q (i := 11) (v := .slice (some ad') l1.length c1) (dst := 98) (by kernel_rfl) rfl rfl (by kernel_rfl) (by kernel_rfl) (by kernel_rfl) (fun _ _ _ h => h) ⟨Or.inl ⟨by rfl, fun w' hw' => ?_⟩, fun _ => rfl⟩ hS0 ?_
              · (have gg0 := z15q hw' s2V; go_simp)
              simp only [sT_]
              refine z12q (i := 12) (v := .int .i64 (x.1 : Int)) (dst := 99) (by kernel_rfl) rfl rfl (by kernel_rfl) (by kernel_rfl) (by kernel_rfl) (fun _ _ _ h => h) ⟨Or.inl ⟨by rfl, fun w' hw' => ?_⟩, fun _ => rfl⟩ hS0 ?_
              · (go_simp)
              simp only [sT_]
              refine z12q (i := 13) (v := .pointer (some (ad'.add (x.1 * 3)))) (dst := 100) (by kernel_rfl) rfl rfl (by kernel_rfl) (by kernel_rfl) (by kernel_rfl) (fun _ _ _ h => h) ⟨Or.inl ⟨by rfl, fun w' hw' => ?_⟩, fun _ => rfl⟩ hS0 ?_
              · (go_simp)
              simp only [sT_]
              refine z12q (i := 14) (v := .agg #[.bool rx.f0.f0, .slice W1 rx.f0.f1.length w1, .slice W2 rx.f1.length w2']) (dst := 101) (by kernel_rfl) rfl rfl (by kernel_rfl) (by kernel_rfl) (by kernel_rfl) (fun _ _ _ h => h) ⟨Or.inl ⟨by rfl, fun w' hw' => ?_⟩, fun _ => rfl⟩ hS0 ?_
              · (have gg0 := z15q hw' r0; have gg1 := z15q hw' r1; have gg2 := z15q hw' r2; go_simp)
              simp only [sT_]
              refine wpAnyHIn_two (i := 15) (j := 16) (by kernel_rfl) rfl rfl (fun K hK => ?callfirst) (fun K hK => ?allocfirst)
              case' callfirst =>
                go_simp
                refine ⟨trivial, ?_⟩
                refine (CallsIn.inRound l (callsIn_wide.2 (rat_Add.calls ka (toS qd).f0.f0 D1 d1 (toS qd).f0.f1 D2 d2 (toS qd).f1 rx.f0.f0 W1 w1 rx.f0.f1 W2 w2' rx.f1 _ _ _ V.drew (Kd.C_below HED.out.2.1 hS0) HED.out.1 (Kd.C_below HED.out.2.2.2 hS0) HED.out.2.2.1 (Kd.C_below HWC.out.1.2 hS0) HWC.out.1.1 (Kd.C_below HWC.out.2.2 hS0) HWC.out.2.1 HKA.out))).mono ?_
                rintro e w5 ⟨u1, u2', rfl, hu1, hu2, hb5⟩
                obtain ⟨E1, ec1, rfl⟩ := Kd.R_slice hu1
                obtain ⟨E2, ec2, rfl⟩ := Kd.R_slice hu2
                have hE5 : EL w.heap.size w5 (toS qz) (.slice E1 (toS qz).f0.f1.length ec1) (.slice E2 (toS qz).f1.length ec2) := EL.lower (n := V.drew.heap.size) ⟨hu1, hu2⟩ (by show w.heap.size ≤ V.heap.size; have := HVB.out.size; have := HKF.out.sz; omega)
                have hS5 : Below V.heap.size V w5 := hS0.trans (hb5.mono hS0.size)
                have hS6 : Below V.heap.size V (w5.alloc (.cells #[.bool false, .slice none 0 0, .slice none 0 0] 39)) := hS5.alloc hS5.size _
                clear hu1 hu2 hb5
                refine hK _ _ hS5 ?_
                clear hK K
                simp only [sT_]
                refine z20q (i := 16) (by kernel_rfl) rfl (fun K hK => ?_)
                go_simp
                refine hK _ _ hS6 ?_
                clear hK K
                simp only [sT_]
                obtain ⟨X, hX⟩ : ∃ X, w5.heap.size = X := ⟨_, rfl⟩
                obtain ⟨Y0, hY0⟩ : ∃ Y0, w5.alloc (.cells #[.bool false, .slice none 0 0, .slice none 0 0] 39) = Y0 := ⟨_, rfl⟩
                have HY : Aside0 (Below V.heap.size V Y0 ∧ Y0.heap[X]? = some (.cells #[.bool false, .slice none 0 0, .slice none 0 0] 39 (0, 0)) ∧ EL w.heap.size Y0 (toS qz) (.slice E1 (toS qz).f0.f1.length ec1) (.slice E2 (toS qz).f1.length ec2) ∧ V.heap.size ≤ X) := ⟨by
                  rw [← hY0, ← hX]
                  exact ⟨hS6, World.alloc_heap_new w5 _, hE5.keep (Tkeep.below ((Below.refl _ w5).alloc (Nat.le_refl _) _)), hS5.size⟩⟩
                rw [hX, hY0]
                clear hX hY0 hS5 hS6 hE5
              case' allocfirst =>
                go_simp
                have hS6 : Below V.heap.size V (V.drew.alloc (.cells #[.bool false, .slice none 0 0, .slice none 0 0] 39)) := hS0.alloc hS0.size _
                have hN6 : (V.drew.alloc (.cells #[.bool false, .slice none 0 0, .slice none 0 0] 39)).heap[V.heap.size]? = some (.cells #[.bool false, .slice none 0 0, .slice none 0 0] 39 (0, 0)) := World.alloc_heap_new V.drew _
                refine hK _ _ hS6 ?_
                clear hK K
                simp only [sT_]
                refine z20q (i := 15) (by kernel_rfl) rfl (fun K hK => ?_)
                go_simp
                refine ⟨trivial, ?_⟩
                refine (CallsIn.inRound l (callsIn_wide.2 (rat_Add.calls ka (toS qd).f0.f0 D1 d1 (toS qd).f0.f1 D2 d2 (toS qd).f1 rx.f0.f0 W1 w1 rx.f0.f1 W2 w2' rx.f1 _ _ _ _ (Kd.C_below HED.out.2.1 hS6) HED.out.1 (Kd.C_below HED.out.2.2.2 hS6) HED.out.2.2.1 (Kd.C_below HWC.out.1.2 hS6) HWC.out.1.1 (Kd.C_below HWC.out.2.2 hS6) HWC.out.2.1 HKA.out))).mono ?_
                rintro e Y0 ⟨u1, u2', rfl, hu1, hu2, hb5⟩
                obtain ⟨E1, ec1, rfl⟩ := Kd.R_slice hu1
                obtain ⟨E2, ec2, rfl⟩ := Kd.R_slice hu2
                have hE5 : EL w.heap.size Y0 (toS qz) (.slice E1 (toS qz).f0.f1.length ec1) (.slice E2 (toS qz).f1.length ec2) := EL.lower (n := (V.drew.alloc (.cells #[.bool false, .slice none 0 0, .slice none 0 0] 39)).heap.size) ⟨hu1, hu2⟩ (by have := hS6.size; have := HVB.out.size; have := HKF.out.sz; omega)
                have hS5 : Below V.heap.size V Y0 := hS6.trans (hb5.mono hS6.size)
                obtain ⟨X, hX⟩ : ∃ X, V.heap.size = X := ⟨_, rfl⟩
                have HY : Aside0 (Below V.heap.size V Y0 ∧ Y0.heap[X]? = some (.cells #[.bool false, .slice none 0 0, .slice none 0 0] 39 (0, 0)) ∧ EL w.heap.size Y0 (toS qz) (.slice E1 (toS qz).f0.f1.length ec1) (.slice E2 (toS qz).f1.length ec2) ∧ V.heap.size ≤ X) := ⟨hS5, by
                  rw [← hX]
                  exact z09q hN6 hb5, hE5, by omega⟩
                refine hK _ _ hS5 ?_
                clear hK K
                simp only [sT_]
                rw [hX]
                clear hu1 hu2 hb5 hN6 hX hS5 hS6 hE5
              all_goals
                have g0 := (z04q HY.out.2.1 0).trans rfl
                have g1 := (z04q HY.out.2.1 1).trans rfl
                have g2 := (z04q HY.out.2.1 2).trans rfl
                have f0 := z08q HY.out.2.1 0
                have f1 := z08q HY.out.2.1 1
                have f2 := z08q HY.out.2.1 2
                have hSf : Below V.heap.size V (((Y0.setCell ⟨X, 0, none⟩ (.bool (toS qz).f0.f0)).setCell ⟨X, 1, none⟩ (.slice E1 (toS qz).f0.f1.length ec1)).setCell ⟨X, 2, none⟩ (.slice E2 (toS qz).f1.length ec2)) := ((HY.out.1.setCell (p := ⟨X, 0, none⟩) HY.out.2.2.2 _).setCell (p := ⟨X, 1, none⟩) HY.out.2.2.2 _).setCell (p := ⟨X, 2, none⟩) HY.out.2.2.2 _
                refine z20q (i := 17) (by kernel_rfl) rfl (fun K hK => ?_)
                go_simp
                refine hK _ _ hSf ?_
                clear hK K
                simp only [sT_]
                refine wpAnyHIn_done (by kernel_rfl) ?_
                obtain ⟨Y, hY⟩ : ∃ Y, (((Y0.setCell ⟨X, 0, none⟩ (.bool (toS qz).f0.f0)).setCell ⟨X, 1, none⟩ (.slice E1 (toS qz).f0.f1.length ec1)).setCell ⟨X, 2, none⟩ (.slice E2 (toS qz).f1.length ec2)) = Y := ⟨_, rfl⟩
                have HYF : Aside0 (Below V.heap.size V Y ∧ Y.heap[X]? = some (.cells #[.bool (toS qz).f0.f0, .slice E1 (toS qz).f0.f1.length ec1, .slice E2 (toS qz).f1.length ec2] 39 (0, 0)) ∧ EL w.heap.size Y (toS qz) (.slice E1 (toS qz).f0.f1.length ec1) (.slice E2 (toS qz).f1.length ec2)) := ⟨by
                  rw [← hY]
                  have h1 := blk_put HY.out.2.1 0 (.bool (toS qz).f0.f0) rfl
                  have h2 := blk_put h1 1 (.slice E1 (toS qz).f0.f1.length ec1) rfl
                  exact ⟨hSf, blk_put h2 2 (.slice E2 (toS qz).f1.length ec2) rfl, HY.out.2.2.1.keep (((Tkeep.set (p := ⟨X, 0, none⟩) HY.out.2.1 (by decide) _).trans (Tkeep.set (p := ⟨X, 1, none⟩) h1 (by decide) _)).trans (Tkeep.set (p := ⟨X, 2, none⟩) h2 (by decide) _))⟩⟩
                rw [hY]
                clear hY hSf g0 g1 g2 f0 f1 f2 HY hS0 a0 a1 a2 r0 r1 r2 c7V s2V v0 v1
                have hUY := HVB.out.trans (HYF.out.1.mono HVB.out.size)
                have c7Y := z15q hUY c7
                obtain ⟨G1, gc1, G2, gc2, b0, b1, b2, hEg⟩ := (HBA.out.below hUY).at (bestL_at hjt)
                rw [HQJ.out] at b0 b1 b2 hEg
                have HEG := Aside0.mk hEg.C
                have x0 := (z04q HYF.out.2.1 0).trans rfl
                have x1 := (z04q HYF.out.2.1 1).trans rfl
                have x2 := (z04q HYF.out.2.1 2).trans rfl
                obtain ⟨kc, cc, hkc, hcc⟩ := cmp_some HSS.out.2 HSS.out.1
                have HKC : Hid (rat_Compare.f kc (toS qz).f0.f0 (toS qz).f0.f1 (toS qz).f1 (toS qj).f0.f0 (toS qj).f0.f1 (toS qj).f1 = some cc) := hkc
                have HCC : Hid (decide (0 < cc) = decide (qj < qz)) := hcc
                have HUY := Aside0.mk hUY
                clear hkc hcc hEg hUY
                gi_wp2
                have hS0 : Below Y.heap.size Y Y.drew := (Below.refl _ Y).drew
                refine wpIn_region_held (fun w' => BelowS Y w') hmx ?_
                show wpAnyHIn _ _ _ _ _ _ _ 7 #[false, false, false, false, false, false, false] _ _
                refine z12q (i := 0) (v := .agg #[.bool (toS qz).f0.f0, .slice E1 (toS qz).f0.f1.length ec1, .slice E2 (toS qz).f1.length ec2]) (dst := 103) (by kernel_rfl) rfl rfl (by kernel_rfl) (by kernel_rfl) (by kernel_rfl) (fun _ _ _ h => h) ⟨Or.inl ⟨by rfl, fun w' hw' => ?_⟩, fun _ => rfl⟩ hS0 ?_
                · (have gg0 := z15q hw' x0; have gg1 := z15q hw' x1; have gg2 := z15q hw' x2; go_simp)
                simp only [sT_]
                refine z12q (i := 1) (v := .slice (some ⟨hc, 0, none⟩) N N) (dst := 104) (by kernel_rfl) rfl rfl (by kernel_rfl) (by kernel_rfl) (by kernel_rfl) (fun _ _ _ h => h) ⟨Or.inl ⟨by rfl, fun w' hw' => ?_⟩, fun _ => rfl⟩ hS0 ?_
                · (have gg0 := z15q hw' c7Y; go_simp)
                simp only [sT_]
                refine z12q (i := 2) (v := .int .i64 (j : Int)) (dst := 105) (by kernel_rfl) rfl rfl (by kernel_rfl) (by kernel_rfl) (by kernel_rfl) (fun _ _ _ h => h) ⟨Or.inl ⟨by rfl, fun w' hw' => ?_⟩, fun _ => rfl⟩ hS0 ?_
                · (go_simp)
                simp only [sT_]
                refine z12q (i := 3) (v := .pointer (some ⟨hc, j * 3, none⟩)) (dst := 106) (by kernel_rfl) rfl rfl (by kernel_rfl) (by kernel_rfl) (by kernel_rfl) (fun _ _ _ h => h) ⟨Or.inl ⟨by rfl, fun w' hw' => ?_⟩, fun _ => rfl⟩ hS0 ?_
                · (go_simp)
                simp only [sT_]
                refine z12q (i := 4) (v := .agg #[.bool (toS qj).f0.f0, .slice G1 (toS qj).f0.f1.length gc1, .slice G2 (toS qj).f1.length gc2]) (dst := 107) (by kernel_rfl) rfl rfl (by kernel_rfl) (by kernel_rfl) (by kernel_rfl) (fun _ _ _ h => h) ⟨Or.inl ⟨by rfl, fun w' hw' => ?_⟩, fun _ => rfl⟩ hS0 ?_
                · (have gg0 := z15q hw' b0; have gg1 := z15q hw' b1; have gg2 := z15q hw' b2; go_simp)
                simp only [sT_]
                refine z20q (i := 5) (by kernel_rfl) rfl (fun K hK => ?_)
                go_simp
                refine ⟨trivial, ?_⟩
                refine (CallsIn.inRound l (callsIn_wide.2 (rat_Compare.calls kc (toS qz).f0.f0 E1 ec1 (toS qz).f0.f1 E2 ec2 (toS qz).f1 (toS qj).f0.f0 G1 gc1 (toS qj).f0.f1 G2 gc2 (toS qj).f1 cc Y.drew (Kd.C_below HYF.out.2.2.C.2.1 hS0) HYF.out.2.2.C.1 (Kd.C_below HYF.out.2.2.C.2.2.2 hS0) HYF.out.2.2.C.2.2.1 (Kd.C_below HEG.out.2.1 hS0) HEG.out.1 (Kd.C_below HEG.out.2.2.2 hS0) HEG.out.2.2.1 HKC.out))).mono ?_
                rintro e w6 ⟨rfl, hb6⟩
                have hS6 : Below Y.heap.size Y w6 := hS0.trans (hb6.mono hS0.size)
                clear hb6
                refine hK _ _ hS6 ?_
                clear hK K
                simp only [sT_]
                refine z12q (i := 6) (v := .bool (decide (0 < cc))) (dst := 109) (by kernel_rfl) rfl rfl (by kernel_rfl) (by kernel_rfl) (by kernel_rfl) (fun _ _ _ h => h) ⟨Or.inl ⟨by rfl, fun w' hw' => ?_⟩, fun _ => rfl⟩ hS6 ?_
                · (go_simp)
                simp only [sT_]
                refine wpAnyHIn_done (by kernel_rfl) ?_
                have hU6 : Below U.heap.size U w6 := HUY.out.trans (hS6.mono HUY.out.size)
                have hV6 : Below V.heap.size V w6 := HYF.out.1.trans (hS6.mono HYF.out.1.size)
                have hBA6 := HBV.out.below hV6
                have hBR6 : BR w6 (U.heap.size + 1) (filled (fun w => ksCond (wdOf l0_1) (vOf l1) (pre.map Fin.val).reverse x.1 w) false N j) := z09q HBR.out hV6
                have HE6 := Aside0.mk (HYF.out.2.2.keep (Tkeep.below hS6))
                have hX6 := z09q HYF.out.2.1 hS6
                have m0 := (z04q hX6 0).trans rfl
                have m1 := (z04q hX6 1).trans rfl
                have m2 := (z04q hX6 2).trans rfl
                have hdj : j - wdOf l0_1 x.1 = d := by rw [HWF.out, HD.out]; omega
                have HU6 := Aside0.mk hU6
                have HBA6 := Aside0.mk hBA6
                have HBR6 := Aside0.mk hBR6
                by_cases hcm : qj < qz
                · have hc0 : 0 < cc := by
                    have := HCC.out
                    rw [decide_eq_true hcm] at this
                    exact of_decide_eq_true this
                  have HYS := Aside0.mk (ks_yes (wd := wdOf l0_1) (v := vOf l1) (qs := (pre.map Fin.val).reverse) (k := x.1) (j := j) (by rw [HWF.out]; omega) (by rw [hdj, HQJ.out, HQD.out, HQZ.out]; exact hcm))
                  obtain ⟨Z1, zc1, Z2, zc2, n0, n1, n2, -⟩ := hBA6.at (x := toS qj) (j := j) (by rw [List.getElem?_set_self (by rw [filled_length]; exact hjt)])
                  have nf0 := hBA6.frozen (j * 3)
                  have nf1 := hBA6.frozen (j * 3 + 1)
                  have nf2 := hBA6.frozen (j * 3 + 2)
                  have w1c := (hBR6.at (j := j) (x := false) (by rw [filled_at _ _ _ _ hjt, if_neg (by omega)]))
                  have w1f := z08q hBR6 j
                  have HDJ : Hid (j - wdOf l0_1 x.1 = d) := hdj
                  clear hU6 hV6 hBA6 hBR6 hX6 hS6 hS0 hdj hcm x0 x1 x2 b0 b1 b2 c7Y
                  gi_wp2
                  have hB3 := HBA6.out.set (j := j) (by rw [List.length_set, filled_length]; exact hjt) HE6.out
                  rw [List.set_set] at hB3
                  have hzz : toS qz = toS (ksVal (wdOf l0_1) (vOf l1) (x.1 :: (pre.map Fin.val).reverse) j) := by rw [HYS.out.1, HDJ.out, HQD.out, HQZ.out]
                  have hR3 : BR (set3 w6 U.heap.size j (.bool (toS qz).f0.f0) (.slice E1 (toS qz).f0.f1.length ec1) (.slice E2 (toS qz).f1.length ec2)) (U.heap.size + 1) (filled (fun w => ksCond (wdOf l0_1) (vOf l1) (pre.map Fin.val).reverse x.1 w) false N j) := (set3_other w6 (by omega) _ _ _ _).trans HBR6.out
                  refine ⟨⟨j + 1, by go_num, by omega, ⟨?_, ?_, ?_⟩⟩, by simp [intOf]; omega⟩
                  · exact (((HU6.out.setCell (p := ⟨U.heap.size, j * 3, none⟩) (Nat.le_refl _) _).setCell (p := ⟨U.heap.size, j * 3 + 1, none⟩) (Nat.le_refl _) _).setCell (p := ⟨U.heap.size, j * 3 + 2, none⟩) (Nat.le_refl _) _).setCell (p := ⟨U.heap.size + 1, j, none⟩) (Nat.le_succ _) _
                  · have h1 := BA.keep (U' := (set3 w6 U.heap.size j (.bool (toS qz).f0.f0) (.slice E1 (toS qz).f0.f1.length ec1) (.slice E2 (toS qz).f1.length ec2)).setCell ⟨U.heap.size + 1, j, none⟩ (.bool true)) hB3 (Below.heap_setCell _ ⟨U.heap.size + 1, j, none⟩ _ _ (by simp)) (Tkeep.set (p := ⟨U.heap.size + 1, j, none⟩) hR3 (by decide) _)
                    have h2 := filled_set (fun w => toS (ksVal (wdOf l0_1) (vOf l1) (x.1 :: (pre.map Fin.val).reverse) w)) z39 N j
                    rw [← h2]
                    rw [← hzz]
                    exact h1
                  · have h1 := hR3.set j true
                    have h2 := filled_set (fun w => ksCond (wdOf l0_1) (vOf l1) (pre.map Fin.val).reverse x.1 w) false N j
                    rw [← h2]
                    rw [HYS.out.2]
                    exact h1
                · have hc0 : ¬ 0 < cc := by
                    have := HCC.out
                    rw [decide_eq_false hcm] at this
                    exact of_decide_eq_false this
                  have HNO := Aside0.mk (ks_no (wd := wdOf l0_1) (v := vOf l1) (qs := (pre.map Fin.val).reverse) (k := x.1) (j := j) (by rw [hdj, HQJ.out, HQD.out, HQZ.out]; exact hcm))
                  clear hU6 hV6 hBA6 hBR6 hX6 hS6 hS0 hdj hcm x0 x1 x2 b0 b1 b2 c7Y m0 m1 m2
                  gi_wp2
                  refine ⟨⟨j + 1, by go_num, by omega, ⟨HU6.out, ?_, ?_⟩⟩, by simp [intOf]; omega⟩
                  · have h1 := HBA6.out
                    rw [← HQJ.out, ← HNO.out.1, filled_set (fun w => toS (ksVal (wdOf l0_1) (vOf l1) (x.1 :: (pre.map Fin.val).reverse) w)) z39 N j] at h1
                    exact h1
                  · rw [← filled_skip _ _ _ _ HNO.out.2]
                    exact HBR6.out
          · obtain rfl : N = j := by omega
            have hjt' : ¬ (N : Int) < (N : Int) := by omega
            rename World => V
            have hUw := hJ.out.1
            obtain ⟨⟨hc', hbx', hba'⟩, ⟨v9, hbx9, ho9⟩, ⟨v10, gs, hbx10, ho10, hgs, hrw⟩⟩ := HKL.out.keep (CKeep.below hUw)
            have c7w := hbx'.cell
            have f7w := hbx'.frozen
            have HBX7 := Aside0.mk hbx'
            have HBX9 := Aside0.mk hbx9
            have HBX10 := Aside0.mk hbx10
            have HO9 := Aside0.mk ho9
            have HO10 := Aside0.mk ho10
            have HGS : Hid (gs.length = (pre.map Fin.val).length) := hgs
            have HRW := Aside0.mk hrw
            clear hbx' hba' hbx9 ho9 hbx10 ho10 hgs hrw
            have hpl : pre.length < 65 := by
              have h1 := pickB_sum (fun i => decide (0 < vOf l1 i)) l0_1 l0_1.length (Nat.le_refl _)
              rw [List.take_length] at h1
              have := HSU.out
              omega
            gi_wp2
            obtain ⟨Y, hY⟩ : ∃ Y, V.setCell ⟨b7, 0, none⟩ (.slice (some ⟨U.heap.size, 0, none⟩) N N) = Y := ⟨_, rfl⟩
            have hTY : ∀ t, t ≠ 25 → Tkeep t V Y := fun t ht => by rw [← hY]; exact Tkeep.set (p := ⟨b7, 0, none⟩) HBX7.out (Ne.symm ht) _
            have hb7k : w.heap.size + 1 + 1 < b7 := by omega
            have HST : Aside0 (ST w.heap.size Y v9 (pre.map Fin.val).length ((pre.map Fin.val).map fun k : Nat => Value.int .i64 (k : Int)) v10 (pre.map Fin.val).length (gs.map fun g : Nat => Value.slice (some ⟨g, 0, none⟩) N N) Y) := ⟨⟨fun _ _ _ _ _ hk => hk, Below.refl _ _, KeepsOthers.refl _, by
                rw [← hY]
                exact own_move HO9.out (fun k hk => Below.heap_setCell V ⟨b7, 0, none⟩ _ k (fun e => by
                  obtain ⟨cells, hcc⟩ := own_typed HO9.out k hk
                  rw [e, HBX7.out] at hcc
                  simp at hcc)), by
                rw [← hY]
                exact own_move HO10.out (fun k hk => Below.heap_setCell V ⟨b7, 0, none⟩ _ k (fun e => by
                  obtain ⟨cells, hcc⟩ := own_typed HO10.out k hk
                  rw [e, HBX7.out] at hcc
                  simp at hcc)), by
                have h1 := (HKF.out.below hUw).bel.size
                rw [← hY, World.size_setCell]
                exact h1⟩⟩
            have HYF : Aside0 (Boxed Y b7 25 (.slice (some ⟨U.heap.size, 0, none⟩) N N) ∧ BA w.heap.size Y U.heap.size (bestL l0_1 l1 (x.1 :: (pre.map Fin.val).reverse) N) ∧ BR Y (U.heap.size + 1) ((List.range N).map fun w => ksCond (wdOf l0_1) (vOf l1) (pre.map Fin.val).reverse x.1 w) ∧ Boxed Y b9 29 v9 ∧ Boxed Y (b9 + 1) 59 v10 ∧ (∀ j g, gs[j]? = some g → BR Y g (rowL l0_1 l1 (pre.map Fin.val) N j)) ∧ KF w a0_0 A0_1 l0_1.length c0_1 A1 l1.length c1 Y) := ⟨by
              refine ⟨by rw [← hY]; exact HBX7.out.set _, ?_, ?_, hTY _ (by decide) _ _ HBX9.out, hTY _ (by decide) _ _ HBX10.out, fun j g hg => hTY _ (by decide) _ _ (HRW.out j g hg), by rw [← hY]; exact (HKF.out.below hUw).set (p := ⟨b7, 0, none⟩) hb7k _⟩
              · have h1 := hJ.out.2.1
                rw [filled_all] at h1
                refine BA.keep h1 ?_ (hTY _ (by decide))
                rw [← hY]
                exact Below.heap_setCell V ⟨b7, 0, none⟩ _ _ (by show U.heap.size ≠ b7; omega)
              · have h1 := hJ.out.2.2
                rw [filled_all] at h1
                exact hTY _ (by decide) _ _ h1⟩
            have hUY : Aside0 (KeepsFrom W5.heap.size U Y ∧ KpP w.heap.size (b9 + 1 + 1) (b9 + 1 + 1 + 1) U Y) := ⟨by
              have h1 := HKF.out.sz
              rw [← hY]
              refine ⟨(KeepsFrom.below hUw).trans ((KeepsOthers.setCell _ _ _).from _), (KpP.below hUw (by omega) (by omega) (by omega)).t ⟨KeptB.set V ⟨b7, 0, none⟩ _ (by show w.heap.size ≤ b7; omega) (by show b9 + 1 + 1 ≠ b7; omega), Below.heap_setCell V ⟨b7, 0, none⟩ _ _ (by show b9 + 1 + 1 + 1 ≠ b7; omega), ?_⟩⟩
              exact Tkeep.set (p := ⟨b7, 0, none⟩) HBX7.out (by decide) _⟩
            have HSW : Aside0 (Y.heap[b9 + 1 + 1]? = some (.cells #[.int .i64 a0_0, .slice A0_1 l0_1.length c0_1] 24 (0, 0)) ∧ Y.heap[b9 + 1 + 1 + 1]? = some (.cells #[.slice A1 l1.length c1] 25 (0, 0))) := ⟨by
              rw [← hY]
              exact ⟨(Below.heap_setCell V ⟨b7, 0, none⟩ _ _ (by show b9 + 1 + 1 ≠ b7; omega)).trans (z09q HBSW.out.1 hUw), (Below.heap_setCell V ⟨b7, 0, none⟩ _ _ (by show b9 + 1 + 1 + 1 ≠ b7; omega)).trans (z09q HBSW.out.2 hUw)⟩⟩
            have HYS : Aside0 (W5.heap.size ≤ Y.heap.size) := ⟨by
              have := hUw.size
              rw [← hY, World.size_setCell]
              omega⟩
            rw [hY]
            have c9Y := HYF.out.2.2.2.1.cell
            have c10Y := HYF.out.2.2.2.2.1.cell
            obtain ⟨i3, hi3, hz3', hs3, hb3⟩ := info_parts (show (Try.prog.info? 3).map (fun i => (i.zero, i.size, i.bytes)) = some (some (.int .i64 0), 1, 8) by kernel_rfl)
            obtain ⟨i62, hi62, hz62, hs62, hb62⟩ := info_parts (show (Try.prog.info? 62).map (fun i => (i.zero, i.size, i.bytes)) = some (some (.slice none 0 0), 1, 24) by kernel_rfl)
            clear hY hTY HBX7 HBX9 HBX10 HO9 HO10 HRW hUw c7w f7w c7 hJ HJ0 HKL
            have HST0 := Aside0.mk HST.out.drew
            have hS0 : TK2 Y Y.drew := HST0.out.tk
            have HPL := Aside0.mk hpl
            clear hpl HST
            refine wpIn_region_heldB (fun w' => TK2 Y w') (fun i => decide (i < 8)) hmx ?_
            show wpAnyBIn _ _ _ _ _ _ _ _ 10 #[false, false, false, false, false, false, false, false, false, false] _ _
            refine z21q (i := 0) (v := v9) (dst := 119) (by kernel_rfl) rfl rfl (by kernel_rfl) (by kernel_rfl) (by kernel_rfl) (by kernel_rfl) (by kernel_rfl) (fun _ _ _ h => h) ⟨Or.inl ⟨by rfl, fun w' hw' => ?_⟩, fun _ => rfl⟩ hS0 ?_
            · (have gg := (z04q (hw' _ _ _ (by decide) (by decide) HYF.out.2.2.2.1) 0).trans rfl; go_simp)
            simp only [sT_]
            refine z21q (i := 1) (v := .int .i64 (x.1 : Int)) (dst := 120) (by kernel_rfl) rfl rfl (by kernel_rfl) (by kernel_rfl) (by kernel_rfl) (by kernel_rfl) (by kernel_rfl) (fun _ _ _ h => h) ⟨Or.inl ⟨by rfl, fun w' hw' => ?_⟩, fun _ => rfl⟩ hS0 ?_
            · go_simp
            simp only [sT_]
            refine z21q (i := 4) (v := v10) (dst := 123) (by kernel_rfl) rfl rfl (by kernel_rfl) (by kernel_rfl) (by kernel_rfl) (by kernel_rfl) (by kernel_rfl) (fun _ _ _ h => h) ⟨Or.inl ⟨by rfl, fun w' hw' => ?_⟩, fun _ => rfl⟩ hS0 ?_
            · (have gg := (z04q (hw' _ _ _ (by decide) (by decide) HYF.out.2.2.2.2.1) 0).trans rfl; go_simp)
            simp only [sT_]
            refine z21q (i := 5) (v := .slice (some ⟨U.heap.size + 1, 0, none⟩) N N) (dst := 124) (by kernel_rfl) rfl rfl (by kernel_rfl) (by kernel_rfl) (by kernel_rfl) (by kernel_rfl) (by kernel_rfl) (fun _ _ _ h => h) ⟨Or.inl ⟨by rfl, fun w' hw' => ?_⟩, fun _ => rfl⟩ hS0 ?_
            · go_simp
            simp only [sT_]
            refine wpAnyBIn_two (i := 2) (j := 6) (by kernel_rfl) rfl rfl (fun K hK => ?o2) (fun K hK => ?o6)
            case' o2 =>
              have hs5 := Aside0.mk ((HST0).out.alloc (.cells #[.int .i64 (x.1 : Int)] 3))
              have hn5 : Aside0 ((Y.drew.alloc (.cells #[.int .i64 (x.1 : Int)] 3)).heap[Y.drew.heap.size]? = some (.cells #[.int .i64 (x.1 : Int)] 3 (0, 0))) := ⟨World.alloc_heap_new Y.drew _⟩
              go_simp
              refine hK _ _ (fun _ => hs5.out.tk) ?_
              clear hK K
              simp only [sT_]
              refine wpAnyBIn_two (i := 3) (j := 6) (by kernel_rfl) rfl rfl (fun K hK => ?o23) (fun K hK => ?o26)
            case' o23 =>
              refine stepIn_append1 rfl _ _ 29 rfl w.heap.size 3 i3 (.int .i64 0) 8 Try.underlying29 hi3 hz3' hs3 hb3 rfl v9 (pre.map Fin.val).length ((pre.map Fin.val).map fun k : Nat => Value.int .i64 (k : Int)) rfl hs5.out.o9 ⟨Y.drew.heap.size, 0, none⟩ 1 (.int .i64 (x.1 : Int)) (by first | rfl | (go_simp; done)) ((z04q hn5.out 0).trans rfl) rfl (by rw [List.length_map]; have := HPL.out; omega) (by decide) hs5.out.sz ?_
              intro g9 cap9 w9z hown9 hg9
              have ha6 := Aside0.mk (hs5.out.app9 hown9 hg9)
              clear hown9 hg9
              refine hK _ _ (fun _ => ha6.out.tk) ?_
              clear hK K
              simp only [Act.put]
              simp only [sT_]
              refine wpAnyBIn_one (i := 6) (by kernel_rfl) rfl (fun K hK => ?_)
              have hs7 := Aside0.mk ((ha6).out.alloc (.cells #[.slice (some ⟨U.heap.size + 1, 0, none⟩) N N] 62))
              have hn7 : Aside0 ((w9z.alloc (.cells #[.slice (some ⟨U.heap.size + 1, 0, none⟩) N N] 62)).heap[w9z.heap.size]? = some (.cells #[.slice (some ⟨U.heap.size + 1, 0, none⟩) N N] 62 (0, 0))) := ⟨World.alloc_heap_new w9z _⟩
              go_simp
              refine hK _ _ (fun _ => hs7.out.tk) ?_
              clear hK K
              simp only [sT_]
              refine wpAnyBIn_one (i := 7) (by kernel_rfl) rfl (fun K hK => ?_)
              refine stepIn_append1 rfl _ _ 59 rfl w.heap.size 62 i62 (.slice none 0 0) 24 Try.underlying59 hi62 hz62 hs62 hb62 rfl v10 (pre.map Fin.val).length (gs.map fun g : Nat => Value.slice (some ⟨g, 0, none⟩) N N) rfl hs7.out.o10 ⟨w9z.heap.size, 0, none⟩ 1 (.slice (some ⟨U.heap.size + 1, 0, none⟩) N N) (by first | rfl | (go_simp; done)) ((z04q hn7.out 0).trans rfl) rfl (by rw [List.length_map]; have := HPL.out; omega) (by decide) hs7.out.sz ?_
              intro g10 cap10 w10z hown10 hg10
              have ha8 := Aside0.mk (hs7.out.app10 hown10 hg10)
              clear hown10 hg10
              refine hK _ _ (fun _ => ha8.out.tk) ?_
              clear hK K
              simp only [Act.put]
              simp only [sT_]
              have HFIN := Aside0.mk ha8.out
            case' o26 =>
              have hs9 := Aside0.mk ((hs5).out.alloc (.cells #[.slice (some ⟨U.heap.size + 1, 0, none⟩) N N] 62))
              have hn9 : Aside0 (((Y.drew.alloc (.cells #[.int .i64 (x.1 : Int)] 3)).alloc (.cells #[.slice (some ⟨U.heap.size + 1, 0, none⟩) N N] 62)).heap[(Y.drew.alloc (.cells #[.int .i64 (x.1 : Int)] 3)).heap.size]? = some (.cells #[.slice (some ⟨U.heap.size + 1, 0, none⟩) N N] 62 (0, 0))) := ⟨World.alloc_heap_new (Y.drew.alloc (.cells #[.int .i64 (x.1 : Int)] 3)) _⟩
              have hm9_9 := Aside0.mk (z05q hn5.out (.cells #[.slice (some ⟨U.heap.size + 1, 0, none⟩) N N] 62))
              go_simp
              refine hK _ _ (fun _ => hs9.out.tk) ?_
              clear hK K
              simp only [sT_]
              refine wpAnyBIn_one (i := 3) (by kernel_rfl) rfl (fun K hK => ?_)
              refine stepIn_append1 rfl _ _ 29 rfl w.heap.size 3 i3 (.int .i64 0) 8 Try.underlying29 hi3 hz3' hs3 hb3 rfl v9 (pre.map Fin.val).length ((pre.map Fin.val).map fun k : Nat => Value.int .i64 (k : Int)) rfl hs9.out.o9 ⟨Y.drew.heap.size, 0, none⟩ 1 (.int .i64 (x.1 : Int)) (by first | rfl | (go_simp; done)) ((z04q hm9_9.out 0).trans rfl) rfl (by rw [List.length_map]; have := HPL.out; omega) (by decide) hs9.out.sz ?_
              intro g9 cap9 w9z hown9 hg9
              have ha10 := Aside0.mk (hs9.out.app9 hown9 hg9)
              have hq10 := Aside0.mk (blk_grown_ty hs9.out.o9 hg9 hn9.out (by decide))
              clear hown9 hg9
              refine hK _ _ (fun _ => ha10.out.tk) ?_
              clear hK K
              simp only [Act.put]
              simp only [sT_]
              refine wpAnyBIn_one (i := 7) (by kernel_rfl) rfl (fun K hK => ?_)
              refine stepIn_append1 rfl _ _ 59 rfl w.heap.size 62 i62 (.slice none 0 0) 24 Try.underlying59 hi62 hz62 hs62 hb62 rfl v10 (pre.map Fin.val).length (gs.map fun g : Nat => Value.slice (some ⟨g, 0, none⟩) N N) rfl ha10.out.o10 ⟨(Y.drew.alloc (.cells #[.int .i64 (x.1 : Int)] 3)).heap.size, 0, none⟩ 1 (.slice (some ⟨U.heap.size + 1, 0, none⟩) N N) (by first | rfl | (go_simp; done)) ((z04q hq10.out 0).trans rfl) rfl (by rw [List.length_map]; have := HPL.out; omega) (by decide) ha10.out.sz ?_
              intro g10 cap10 w10z hown10 hg10
              have ha11 := Aside0.mk (ha10.out.app10 hown10 hg10)
              clear hown10 hg10
              refine hK _ _ (fun _ => ha11.out.tk) ?_
              clear hK K
              simp only [Act.put]
              simp only [sT_]
              have HFIN := Aside0.mk ha11.out
            case' o6 =>
              have hs1 := Aside0.mk ((HST0).out.alloc (.cells #[.slice (some ⟨U.heap.size + 1, 0, none⟩) N N] 62))
              have hn1 : Aside0 ((Y.drew.alloc (.cells #[.slice (some ⟨U.heap.size + 1, 0, none⟩) N N] 62)).heap[Y.drew.heap.size]? = some (.cells #[.slice (some ⟨U.heap.size + 1, 0, none⟩) N N] 62 (0, 0))) := ⟨World.alloc_heap_new Y.drew _⟩
              go_simp
              refine hK _ _ (fun _ => hs1.out.tk) ?_
              clear hK K
              simp only [sT_]
              refine wpAnyBIn_one (i := 2) (by kernel_rfl) rfl (fun K hK => ?_)
              have hs2 := Aside0.mk ((hs1).out.alloc (.cells #[.int .i64 (x.1 : Int)] 3))
              have hn2 : Aside0 (((Y.drew.alloc (.cells #[.slice (some ⟨U.heap.size + 1, 0, none⟩) N N] 62)).alloc (.cells #[.int .i64 (x.1 : Int)] 3)).heap[(Y.drew.alloc (.cells #[.slice (some ⟨U.heap.size + 1, 0, none⟩) N N] 62)).heap.size]? = some (.cells #[.int .i64 (x.1 : Int)] 3 (0, 0))) := ⟨World.alloc_heap_new (Y.drew.alloc (.cells #[.slice (some ⟨U.heap.size + 1, 0, none⟩) N N] 62)) _⟩
              have hm2_10 := Aside0.mk (z05q hn1.out (.cells #[.int .i64 (x.1 : Int)] 3))
              go_simp
              refine hK _ _ (fun _ => hs2.out.tk) ?_
              clear hK K
              simp only [sT_]
              refine wpAnyBIn_one (i := 3) (by kernel_rfl) rfl (fun K hK => ?_)
              refine stepIn_append1 rfl _ _ 29 rfl w.heap.size 3 i3 (.int .i64 0) 8 Try.underlying29 hi3 hz3' hs3 hb3 rfl v9 (pre.map Fin.val).length ((pre.map Fin.val).map fun k : Nat => Value.int .i64 (k : Int)) rfl hs2.out.o9 ⟨(Y.drew.alloc (.cells #[.slice (some ⟨U.heap.size + 1, 0, none⟩) N N] 62)).heap.size, 0, none⟩ 1 (.int .i64 (x.1 : Int)) (by first | rfl | (go_simp; done)) ((z04q hn2.out 0).trans rfl) rfl (by rw [List.length_map]; have := HPL.out; omega) (by decide) hs2.out.sz ?_
              intro g9 cap9 w9z hown9 hg9
              have ha3 := Aside0.mk (hs2.out.app9 hown9 hg9)
              have hq3 := Aside0.mk (blk_grown_ty hs2.out.o9 hg9 hm2_10.out (by decide))
              clear hown9 hg9
              refine hK _ _ (fun _ => ha3.out.tk) ?_
              clear hK K
              simp only [Act.put]
              simp only [sT_]
              refine wpAnyBIn_one (i := 7) (by kernel_rfl) rfl (fun K hK => ?_)
              refine stepIn_append1 rfl _ _ 59 rfl w.heap.size 62 i62 (.slice none 0 0) 24 Try.underlying59 hi62 hz62 hs62 hb62 rfl v10 (pre.map Fin.val).length (gs.map fun g : Nat => Value.slice (some ⟨g, 0, none⟩) N N) rfl ha3.out.o10 ⟨Y.drew.heap.size, 0, none⟩ 1 (.slice (some ⟨U.heap.size + 1, 0, none⟩) N N) (by first | rfl | (go_simp; done)) ((z04q hq3.out 0).trans rfl) rfl (by rw [List.length_map]; have := HPL.out; omega) (by decide) ha3.out.sz ?_
              intro g10 cap10 w10z hown10 hg10
              have ha4 := Aside0.mk (ha3.out.app10 hown10 hg10)
              clear hown10 hg10
              refine hK _ _ (fun _ => ha4.out.tk) ?_
              clear hK K
              simp only [Act.put]
              simp only [sT_]
              have HFIN := Aside0.mk ha4.out
            all_goals
              have hx9 := HFIN.out.tk b9 _ _ (by decide) (by decide) HYF.out.2.2.2.1
              have hx10 := HFIN.out.tk (b9 + 1) _ _ (by decide) (by decide) HYF.out.2.2.2.2.1
              have HX9 : Aside0 (Boxed w10z b9 29 v9) := ⟨hx9⟩
              have HX10 : Aside0 (Boxed w10z (b9 + 1) 59 v10) := ⟨hx10⟩
              have p9 := HX9.out.cell
              have p10 := HX10.out.cell
              have pf9 := HX9.out.frozen
              have pf10 := HX10.out.frozen
              clear hx9 hx10 c9Y c10Y
              refine wpAnyBIn_one (i := 8) (by kernel_rfl) rfl (fun K hK => ?_)
              go_simp
              refine hK _ _ (fun h => by cases h) ?_
              clear hK K
              simp only [sT_]
              refine wpAnyBIn_one (i := 9) (by kernel_rfl) rfl (fun K hK => ?_)
              go_simp
              refine hK _ _ (fun h => by cases h) ?_
              clear hK K
              simp only [sT_]
              refine wpAnyBIn_done (by kernel_rfl) ?_
              clear p9 p10 pf9 pf10
              obtain ⟨Z, hZ⟩ : ∃ Z, (w10z.setCell ⟨b9, 0, none⟩ (.slice (some ⟨g9, 0, none⟩) (pre.length + 1) cap9)).setCell ⟨b9 + 1, 0, none⟩ (.slice (some ⟨g10, 0, none⟩) (pre.length + 1) cap10) = Z := ⟨_, rfl⟩
              have hA : (w10z.setCell ⟨b9, 0, none⟩ (.slice (some ⟨g9, 0, none⟩) (pre.length + 1) cap9)).heap[b9 + 1]? = some (.cells #[v10] 59 (0, 0)) := (Below.heap_setCell _ ⟨b9, 0, none⟩ _ _ (by show b9 + 1 ≠ b9; omega)).trans HX10.out
              have hK1 : ∀ t, t ≠ 29 → t ≠ 59 → Tkeep t w10z Z := fun t t1 t2 => by
                rw [← hZ]
                exact (Tkeep.set (p := ⟨b9, 0, none⟩) HX9.out (Ne.symm t1) _).trans (Tkeep.set (p := ⟨b9 + 1, 0, none⟩) hA (Ne.symm t2) _)
              have hlen : (pre.map Fin.val).length = pre.length := List.length_map _
              have hlen2 : ((pre ++ [x]).map Fin.val).length = pre.length + 1 := by simp
              have hO9 : Z.ownsRow w.heap.size 3 1 (.slice (some ⟨g9, 0, none⟩) (pre.length + 1) cap9) ((pre ++ [x]).map Fin.val).length (((pre ++ [x]).map Fin.val).map fun k : Nat => Value.int .i64 (k : Int)) := by
                have h1 := HFIN.out.o9
                rw [hlen] at h1
                rw [hlen2, List.map_append, List.map_append]
                refine own_move h1 (fun k hk => ?_)
                obtain ⟨cells, hcc⟩ := own_typed h1 k hk
                exact (hK1 _ (by decide) (by decide) k cells hcc).trans hcc.symm
              have hO10 : Z.ownsRow w.heap.size 62 1 (.slice (some ⟨g10, 0, none⟩) (pre.length + 1) cap10) ((pre ++ [x]).map Fin.val).length ((gs ++ [U.heap.size + 1]).map fun g : Nat => Value.slice (some ⟨g, 0, none⟩) N N) := by
                have h1 := HFIN.out.o10
                rw [hlen] at h1
                rw [hlen2, List.map_append]
                refine own_move h1 (fun k hk => ?_)
                obtain ⟨cells, hcc⟩ := own_typed h1 k hk
                exact (hK1 _ (by decide) (by decide) k cells hcc).trans hcc.symm
              have hT : ∀ t, t ≠ 29 → t ≠ 59 → t ≠ 3 → t ≠ 62 → Tkeep t Y Z := fun t t1 t2 t3 t4 => (HFIN.out.tk.t t3 t4).trans (hK1 t t1 t2)
              have hB9 : Boxed Z b9 29 (.slice (some ⟨g9, 0, none⟩) (pre.length + 1) cap9) := by
                rw [← hZ]
                exact (HX9.out.set _).other (by omega) _
              have hB10 : Boxed Z (b9 + 1) 59 (.slice (some ⟨g10, 0, none⟩) (pre.length + 1) cap10) := by
                rw [← hZ]
                exact Boxed.set _ hA
              have hbZ : Below w.heap.size Y Z := by
                rw [← hZ]
                exact (HFIN.out.bl.setCell (p := ⟨b9, 0, none⟩) (by show w.heap.size ≤ b9; omega) _).setCell (p := ⟨b9 + 1, 0, none⟩) (by show w.heap.size ≤ b9 + 1; omega) _
              have hkoZ : KeepsOthers Y Z := by
                rw [← hZ]
                exact (HFIN.out.ko.trans (KeepsOthers.setCell _ _ _)).trans (KeepsOthers.setCell _ _ _)
              have hkf := HYF.out.2.2.2.2.2.2
              have hkfZ : KF w a0_0 A0_1 l0_1.length c0_1 A1 l1.length c1 Z := ⟨hT _ (by decide) (by decide) (by decide) (by decide) _ _ hkf.b2, hT _ (by decide) (by decide) (by decide) (by decide) _ _ hkf.b3, hT _ (by decide) (by decide) (by decide) (by decide) _ _ hkf.b4, hkf.bel.trans hbZ⟩
              have hSY : Y.heap[b9 + 1 + 1]? = some (.cells #[.int .i64 a0_0, .slice A0_1 l0_1.length c0_1] 24 (0, 0)) := HSW.out.1
              have hWY : Y.heap[b9 + 1 + 1 + 1]? = some (.cells #[.slice A1 l1.length c1] 25 (0, 0)) := HSW.out.2
              rw [hZ]
              refine ⟨hUY.out.1.trans (hkoZ.from _), hUY.out.2.t ⟨⟨hbZ, (hT _ (by decide) (by decide) (by decide) (by decide) _ _ hSY).trans hSY.symm⟩, (hT _ (by decide) (by decide) (by decide) (by decide) _ _ hWY).trans hWY.symm, hT _ (by decide) (by decide) (by decide) (by decide)⟩, ⟨⟨U.heap.size, hT _ (by decide) (by decide) (by decide) (by decide) _ _ HYF.out.1, ?_⟩, ⟨_, hB9, hO9⟩, ⟨_, gs ++ [U.heap.size + 1], hB10, hO10, by rw [List.length_append, HGS.out, hlen, hlen2]; rfl, ?_⟩⟩, hkfZ, Nat.le_trans HYS.out hkoZ.size, hT _ (by decide) (by decide) (by decide) (by decide) _ _ hSY, hT _ (by decide) (by decide) (by decide) (by decide) _ _ hWY⟩
              · rw [List.map_append, List.reverse_append]
                have h1 := HYF.out.2.1
                exact BA.keep h1 (by
                  obtain ⟨CS, e1', e2', e3'⟩ := id h1
                  exact (hT _ (by decide) (by decide) (by decide) (by decide) _ _ e1').trans e1'.symm) (hT _ (by decide) (by decide) (by decide) (by decide))
              · intro j g hg
                have hgl : gs.length = pre.length := HGS.out.trans hlen
                by_cases hj : j < gs.length
                · rw [List.getElem?_append_left hj] at hg
                  have h1 := HYF.out.2.2.2.2.2.1 j g hg
                  rw [List.map_append, List.map_cons, List.map_nil, rowL_snoc (by rw [hlen]; omega)]
                  exact hT _ (by decide) (by decide) (by decide) (by decide) _ _ h1
                · have hj2 : j = gs.length := by
                    have := (List.getElem?_eq_some_iff.1 hg).1
                    simp at this
                    omega
                  subst hj2
                  rw [List.getElem?_append_right (Nat.le_refl _), Nat.sub_self] at hg
                  obtain rfl : U.heap.size + 1 = g := by simpa using hg
                  have h1 := HYF.out.2.2.1
                  rw [List.map_append, List.map_cons, List.map_nil, hgl, ← hlen, rowL_last]
                  exact hT _ (by decide) (by decide) (by decide) (by decide) _ _ h1
      case done =>
        rintro D ys U hD hys ⟨hkl, hkf, hzU, -, -⟩ hK
        rw [← hfr]
        clear hfr
        have HYSD : Hid (ys.map Fin.val = piecesOf l0_1 l1) := by
          refine hys.trans ?_
          exact (pickB_eq _ _ _).symm
        rw [HYSD.out] at hkl
        have HKL := Aside0.mk hkl
        have HKF := Aside0.mk hkf
        have HKD : Hid (U.heap[D]? = some (.deferred (some []))) := hK
        obtain ⟨⟨hc, hbx, hba⟩, ⟨v9, hbx9, ho9⟩, ⟨v10, gs, hbx10, ho10, hgs, hrw⟩⟩ := hkl
        have c7 := hbx.cell
        have HBA := Aside0.mk hba
        have HBX9 := Aside0.mk hbx9
        have HBX10 := Aside0.mk hbx10
        have HO9 := Aside0.mk ho9
        have HO10 := Aside0.mk ho10
        have HGS : Hid (gs.length = (piecesOf l0_1 l1).length) := hgs
        have HRW := Aside0.mk hrw
        have hb7U := hbx.lt
        clear hkf hK hys hbx hba hbx9 ho9 hbx10 ho10 hgs hrw hst
        have haN : a0_0.toNat < N := by omega
        have haN' : a0_0 < (N : Int) := by omega
        have ha0 : (0 : Int) ≤ a0_0 := by omega
        obtain ⟨B1, bc1, B2, bc2, q0, q1, q2, hEB⟩ := HBA.out.at (bestL_at haN)
        have hqB : ksVal (wdOf l0_1) (vOf l1) (piecesOf l0_1 l1).reverse a0_0.toNat = bestQ a0_0 l0_1 l1 := rfl
        rw [hqB] at q0 q1 q2 hEB
        have HEB := Aside0.mk hEB
        obtain ⟨s0, s1⟩ := z26q HKF.out.b2
        have hm60 : l0_1.length ≤ 60 := by
          have := HRI.out
          unfold rightB at this
          rw [Bool.and_eq_true, Bool.and_eq_true] at this
          exact of_decide_eq_true this.1.2
        have hmki := run_make_row' (P := Try.prog) 29 3 (.int .i64 0) 8 Try.underlying29 (by kernel_rfl) rfl .i64 .i64 l0_1.length (by omega) (by omega)
        clear hqB hEB
        simp only [Exit.inBlock, Exit.then]
        gi_wp2
        have hS0 : Below U.heap.size U U.drew := (Below.refl _ U).drew
        refine wpIn_region_held (fun w' => BelowS U w') hmx ?_
        show wpAnyHIn _ _ _ _ _ _ _ 12 #[false, false, false, false, false, false, false, false, false, false, false, false] _ _
        refine z12q (i := 0) (v := .slice (some ⟨hc, 0, none⟩) N N) (dst := 127) (by kernel_rfl) rfl rfl (by kernel_rfl) (by kernel_rfl) (by kernel_rfl) (fun _ _ _ h => h) ⟨Or.inl ⟨by rfl, fun w' hw' => ?_⟩, fun _ => rfl⟩ hS0 ?_
        · (have gg0 := z15q hw' c7; go_simp)
        simp only [sT_]
        refine z12q (i := 1) (v := .pointer (some ⟨w.heap.size, 0, none⟩)) (dst := 128) (by kernel_rfl) rfl rfl (by kernel_rfl) (by kernel_rfl) (by kernel_rfl) (fun _ _ _ h => h) ⟨Or.inl ⟨by rfl, fun w' hw' => ?_⟩, fun _ => rfl⟩ hS0 ?_
        · (go_simp)
        simp only [sT_]
        refine z12q (i := 2) (v := .int .i64 a0_0) (dst := 129) (by kernel_rfl) rfl rfl (by kernel_rfl) (by kernel_rfl) (by kernel_rfl) (fun _ _ _ h => h) ⟨Or.inl ⟨by rfl, fun w' hw' => ?_⟩, fun _ => rfl⟩ hS0 ?_
        · (have gg0 := z15q hw' s0; go_simp)
        simp only [sT_]
        refine z12q (i := 3) (v := .pointer (some ⟨hc, a0_0.toNat * 3, none⟩)) (dst := 130) (by kernel_rfl) rfl rfl (by kernel_rfl) (by kernel_rfl) (by kernel_rfl) (fun _ _ _ h => h) ⟨Or.inl ⟨by rfl, fun w' hw' => ?_⟩, fun _ => rfl⟩ hS0 ?_
        · (go_simp)
        simp only [sT_]
        refine z12q (i := 4) (v := .agg #[.bool (toS (bestQ a0_0 l0_1 l1)).f0.f0, .slice B1 (toS (bestQ a0_0 l0_1 l1)).f0.f1.length bc1, .slice B2 (toS (bestQ a0_0 l0_1 l1)).f1.length bc2]) (dst := 131) (by kernel_rfl) rfl rfl (by kernel_rfl) (by kernel_rfl) (by kernel_rfl) (fun _ _ _ h => h) ⟨Or.inl ⟨by rfl, fun w' hw' => ?_⟩, fun _ => rfl⟩ hS0 ?_
        · (have gg0 := z15q hw' q0; have gg1 := z15q hw' q1; have gg2 := z15q hw' q2; go_simp)
        simp only [sT_]
        refine z12q (i := 5) (v := .pointer (some ⟨w.heap.size, 1, none⟩)) (dst := 132) (by kernel_rfl) rfl rfl (by kernel_rfl) (by kernel_rfl) (by kernel_rfl) (fun _ _ _ h => h) ⟨Or.inl ⟨by rfl, fun w' hw' => ?_⟩, fun _ => rfl⟩ hS0 ?_
        · (go_simp)
        simp only [sT_]
        refine z12q (i := 6) (v := .slice A0_1 l0_1.length c0_1) (dst := 133) (by kernel_rfl) rfl rfl (by kernel_rfl) (by kernel_rfl) (by kernel_rfl) (fun _ _ _ h => h) ⟨Or.inl ⟨by rfl, fun w' hw' => ?_⟩, fun _ => rfl⟩ hS0 ?_
        · (have gg0 := z15q hw' s1; go_simp)
        simp only [sT_]
        refine z12q (i := 7) (v := .int .i64 (l0_1.length : Int)) (dst := 134) (by kernel_rfl) rfl rfl (by kernel_rfl) (by kernel_rfl) (by kernel_rfl) (fun _ _ _ h => h) ⟨Or.inl ⟨by rfl, fun w' hw' => ?_⟩, fun _ => rfl⟩ hS0 ?_
        · (go_simp)
        simp only [sT_]
        refine wpAnyHIn_two (i := 8) (j := 10) (by kernel_rfl) rfl rfl (fun K hK => ?mk) (fun K hK => ?al)
        case' mk =>
          go_simp
          have hS1 : Below U.heap.size U (U.drew.alloc (.cells (madeCells #[.int .i64 0] l0_1.length) 3)) := hS0.alloc hS0.size _
          have hG1 : (U.drew.alloc (.cells (madeCells #[.int .i64 0] l0_1.length) 3)).heap[U.heap.size]? = some (.cells (madeCells #[.int .i64 0] l0_1.length) 3 (0, 0)) := World.alloc_heap_new U.drew _
          refine hK _ _ hS1 ?_
          clear hK K
          simp only [sT_]
          refine z12q (i := 9) (v := .agg #[.bool (toS (bestQ a0_0 l0_1 l1)).f0.f0, .slice B1 (toS (bestQ a0_0 l0_1 l1)).f0.f1.length bc1, .slice B2 (toS (bestQ a0_0 l0_1 l1)).f1.length bc2, .slice (some ⟨U.heap.size, 0, none⟩) l0_1.length l0_1.length]) (dst := 136) (by kernel_rfl) rfl rfl (by kernel_rfl) (by kernel_rfl) (by kernel_rfl) (fun _ _ _ h => h) ⟨Or.inl ⟨by rfl, fun w' hw' => ?_⟩, fun _ => rfl⟩ hS1 ?_
          · go_simp
          simp only [sT_]
          refine z20q (i := 10) (by kernel_rfl) rfl (fun K hK => ?_)
          go_simp
          have hSz := hS1.alloc hS1.size (.cells #[.bool false, .slice none 0 0, .slice none 0 0, .slice none 0 0] 41)
          have hXz : ((U.drew.alloc (.cells (madeCells #[.int .i64 0] l0_1.length) 3)).alloc (.cells #[.bool false, .slice none 0 0, .slice none 0 0, .slice none 0 0] 41)).heap[U.heap.size + 1]? = some (.cells #[.bool false, .slice none 0 0, .slice none 0 0, .slice none 0 0] 41 (0, 0)) := by
            have := World.alloc_heap_new (U.drew.alloc (.cells (madeCells #[.int .i64 0] l0_1.length) 3)) (.cells #[.bool false, .slice none 0 0, .slice none 0 0, .slice none 0 0] 41)
            rwa [World.size_alloc] at this
          have hGz := z05q hG1 (.cells #[.bool false, .slice none 0 0, .slice none 0 0, .slice none 0 0] 41)
          refine hK _ _ hSz ?_
          clear hK K hS1 hG1
          simp only [sT_]
          have hle1 : U.heap.size ≤ U.heap.size + 1 := by omega
          have hle2 : U.heap.size ≤ U.heap.size := Nat.le_refl _
          have hne : U.heap.size + 1 ≠ U.heap.size := by omega
          obtain ⟨X, hX⟩ : ∃ X, U.heap.size + 1 = X := ⟨_, rfl⟩
          obtain ⟨G, hG⟩ : ∃ G, U.heap.size = G := ⟨_, rfl⟩
          rw [hX] at hXz hle1 hne
          rw [hX]
          have hGz' := hGz
          rw [hG] at hGz' hne ⊢
          clear hGz
          have hGz := hGz'
          clear hGz'
          have hle2' : U.heap.size ≤ G := by omega
          clear hle2
          have hle2 := hle2'
          clear hle2' hX hG
          obtain ⟨Yw, hYw⟩ : ∃ Yw, ((U.drew.alloc (.cells (madeCells #[.int .i64 0] l0_1.length) 3)).alloc (.cells #[.bool false, .slice none 0 0, .slice none 0 0, .slice none 0 0] 41)) = Yw := ⟨_, rfl⟩
          rw [hYw] at hSz hXz hGz
          rw [show ((U.alloc (.cells (madeCells #[.int .i64 0] l0_1.length) 3)).alloc (.cells #[.bool false, .slice none 0 0, .slice none 0 0, .slice none 0 0] 41)).drew = Yw from hYw]
          clear hYw
          have HYW : Aside0 (Below U.heap.size U Yw ∧ Yw.heap[X]? = some (.cells #[.bool false, .slice none 0 0, .slice none 0 0, .slice none 0 0] 41 (0, 0)) ∧ Yw.heap[G]? = some (.cells (madeCells #[.int .i64 0] l0_1.length) 3 (0, 0)) ∧ U.heap.size ≤ X ∧ U.heap.size ≤ G ∧ X ≠ G) := ⟨hSz, hXz, hGz, hle1, hle2, hne⟩
          clear hSz hXz hGz hle1 hle2 hne
        case' al =>
          go_simp
          have hS1 : Below U.heap.size U (U.drew.alloc (.cells #[.bool false, .slice none 0 0, .slice none 0 0, .slice none 0 0] 41)) := hS0.alloc hS0.size _
          have hX1 : (U.drew.alloc (.cells #[.bool false, .slice none 0 0, .slice none 0 0, .slice none 0 0] 41)).heap[U.heap.size]? = some (.cells #[.bool false, .slice none 0 0, .slice none 0 0, .slice none 0 0] 41 (0, 0)) := World.alloc_heap_new U.drew _
          refine hK _ _ hS1 ?_
          clear hK K
          simp only [sT_]
          refine z20q (i := 8) (by kernel_rfl) rfl (fun K hK => ?_)
          go_simp
          have hSz := hS1.alloc hS1.size (.cells (madeCells #[.int .i64 0] l0_1.length) 3)
          have hGz : ((U.drew.alloc (.cells #[.bool false, .slice none 0 0, .slice none 0 0, .slice none 0 0] 41)).alloc (.cells (madeCells #[.int .i64 0] l0_1.length) 3)).heap[U.heap.size + 1]? = some (.cells (madeCells #[.int .i64 0] l0_1.length) 3 (0, 0)) := by
            have := World.alloc_heap_new (U.drew.alloc (.cells #[.bool false, .slice none 0 0, .slice none 0 0, .slice none 0 0] 41)) (.cells (madeCells #[.int .i64 0] l0_1.length) 3)
            rwa [World.size_alloc] at this
          have hXz := z05q hX1 (.cells (madeCells #[.int .i64 0] l0_1.length) 3)
          refine hK _ _ hSz ?_
          clear hK K
          simp only [sT_]
          refine z12q (i := 9) (v := .agg #[.bool (toS (bestQ a0_0 l0_1 l1)).f0.f0, .slice B1 (toS (bestQ a0_0 l0_1 l1)).f0.f1.length bc1, .slice B2 (toS (bestQ a0_0 l0_1 l1)).f1.length bc2, .slice (some ⟨U.heap.size + 1, 0, none⟩) l0_1.length l0_1.length]) (dst := 136) (by kernel_rfl) rfl rfl (by kernel_rfl) (by kernel_rfl) (by kernel_rfl) (fun _ _ _ h => h) ⟨Or.inl ⟨by rfl, fun w' hw' => ?_⟩, fun _ => rfl⟩ hSz ?_
          · go_simp
          simp only [sT_]
          clear hS1 hX1
          have hle2 : U.heap.size ≤ U.heap.size + 1 := by omega
          have hne : U.heap.size ≠ U.heap.size + 1 := by omega
          obtain ⟨G, hG⟩ : ∃ G, U.heap.size + 1 = G := ⟨_, rfl⟩
          obtain ⟨X, hX⟩ : ∃ X, U.heap.size = X := ⟨_, rfl⟩
          rw [hG] at hGz hle2 hne
          rw [hG]
          have hXz' := hXz
          rw [hX] at hXz' hne ⊢
          clear hXz
          have hXz := hXz'
          have hle1 : U.heap.size ≤ X := by omega
          clear hXz' hX hG
          obtain ⟨Yw, hYw⟩ : ∃ Yw, ((U.drew.alloc (.cells #[.bool false, .slice none 0 0, .slice none 0 0, .slice none 0 0] 41)).alloc (.cells (madeCells #[.int .i64 0] l0_1.length) 3)) = Yw := ⟨_, rfl⟩
          rw [hYw] at hSz hXz hGz
          rw [show ((U.alloc (.cells #[.bool false, .slice none 0 0, .slice none 0 0, .slice none 0 0] 41)).alloc (.cells (madeCells #[.int .i64 0] l0_1.length) 3)).drew = Yw from hYw]
          clear hYw
          have HYW : Aside0 (Below U.heap.size U Yw ∧ Yw.heap[X]? = some (.cells #[.bool false, .slice none 0 0, .slice none 0 0, .slice none 0 0] 41 (0, 0)) ∧ Yw.heap[G]? = some (.cells (madeCells #[.int .i64 0] l0_1.length) 3 (0, 0)) ∧ U.heap.size ≤ X ∧ U.heap.size ≤ G ∧ X ≠ G) := ⟨hSz, hXz, hGz, hle1, hle2, hne⟩
          clear hSz hXz hGz hle1 hle2 hne
        all_goals
          obtain ⟨g0, g1, g2, g3, f0, f1, f2, f3⟩ := box4_cells HYW.out.2.1
          refine z20q (i := 11) (by kernel_rfl) rfl (fun K hK => ?_)
          go_simp
          have hSf : Below U.heap.size U (set4 Yw X (.bool (toS (bestQ a0_0 l0_1 l1)).f0.f0) (.slice B1 (toS (bestQ a0_0 l0_1 l1)).f0.f1.length bc1) (.slice B2 (toS (bestQ a0_0 l0_1 l1)).f1.length bc2) (.slice (some ⟨G, 0, none⟩) l0_1.length l0_1.length)) := set4_below HYW.out.2.2.2.1 HYW.out.1 _ _ _ _
          have hXf := set4_heap HYW.out.2.1 (.bool (toS (bestQ a0_0 l0_1 l1)).f0.f0) (.slice B1 (toS (bestQ a0_0 l0_1 l1)).f0.f1.length bc1) (.slice B2 (toS (bestQ a0_0 l0_1 l1)).f1.length bc2) (.slice (some ⟨G, 0, none⟩) l0_1.length l0_1.length)
          have hGf : (set4 Yw X (.bool (toS (bestQ a0_0 l0_1 l1)).f0.f0) (.slice B1 (toS (bestQ a0_0 l0_1 l1)).f0.f1.length bc1) (.slice B2 (toS (bestQ a0_0 l0_1 l1)).f1.length bc2) (.slice (some ⟨G, 0, none⟩) l0_1.length l0_1.length)).heap[G]? = some (.cells (madeCells #[.int .i64 0] l0_1.length) 3 (0, 0)) := by
            have hn : G ≠ X := Ne.symm HYW.out.2.2.2.2.2
            exact ((Below.heap_setCell _ ⟨X, 3, none⟩ _ G hn).trans ((Below.heap_setCell _ ⟨X, 2, none⟩ _ G hn).trans ((Below.heap_setCell _ ⟨X, 1, none⟩ _ G hn).trans (Below.heap_setCell _ ⟨X, 0, none⟩ _ G hn)))).trans HYW.out.2.2.1
          refine hK _ _ hSf ?_
          clear hK K
          simp only [sT_]
          refine wpAnyHIn_done (by kernel_rfl) ?_
          obtain ⟨Y, hY⟩ : ∃ Y, set4 Yw X (.bool (toS (bestQ a0_0 l0_1 l1)).f0.f0) (.slice B1 (toS (bestQ a0_0 l0_1 l1)).f0.f1.length bc1) (.slice B2 (toS (bestQ a0_0 l0_1 l1)).f1.length bc2) (.slice (some ⟨G, 0, none⟩) l0_1.length l0_1.length) = Y := ⟨_, rfl⟩
          rw [hY] at hSf hXf hGf
          unfold set4 at hY
          rw [hY]
          have HYN : Aside0 (Below U.heap.size U Y ∧ Y.heap[X]? = some (.cells #[.bool (toS (bestQ a0_0 l0_1 l1)).f0.f0, .slice B1 (toS (bestQ a0_0 l0_1 l1)).f0.f1.length bc1, .slice B2 (toS (bestQ a0_0 l0_1 l1)).f1.length bc2, .slice (some ⟨G, 0, none⟩) l0_1.length l0_1.length] 41 (0, 0)) ∧ Y.heap[G]? = some (.cells ((List.replicate l0_1.length 0).map fun n : Nat => Value.int .i64 (n : Int)).toArray 3 (0, 0)) ∧ U.heap.size ≤ X ∧ U.heap.size ≤ G ∧ X ≠ G) := ⟨hSf, hXf, hGf.trans (by rw [made_ints]), HYW.out.2.2.2⟩
          clear hY hSf hXf hGf HYW g0 g1 g2 g3 f0 f1 f2 f3 q0 q1 q2 c7 s0 s1 hS0 hmki
          have s0 := z15q HYN.out.1 (z26q HKF.out.b2).1
          have c9 := z15q HYN.out.1 HBX9.out.cell
          obtain ⟨A9, C9, rfl⟩ := own_slice HO9.out
          have hpl9 : (piecesOf l0_1 l1).length ≤ 64 := by
            have h1 := pickB_sum (fun i => decide (0 < vOf l1 i)) l0_1 l0_1.length (Nat.le_refl _)
            rw [List.take_length] at h1
            have h2 := HSU.out
            have h3 : (piecesOf l0_1 l1).length = (pickB (fun i => decide (0 < vOf l1 i)) (needN l0_1) (List.range l0_1.length)).length := congrArg List.length (pickB_eq _ _ _)
            omega
          gi_wp2
          gi_loopw [17, 18] (fun s17 s18 wr => ∃ (n q : Nat) (TN : List Nat), s17 = .int .i64 (q : Int) ∧ s18 = .int .i64 ((n : Int) - 1) ∧ n ≤ (piecesOf l0_1 l1).length ∧ q ≤ a0_0.toNat ∧ Aside0 (TakenAt l0_1 l1 (piecesOf l0_1 l1) a0_0.toNat l0_1.length n q TN) ∧ Aside0 (Below U.heap.size U wr ∧ wr.heap[X]? = some (.cells #[.bool (toS (bestQ a0_0 l0_1 l1)).f0.f0, .slice B1 (toS (bestQ a0_0 l0_1 l1)).f0.f1.length bc1, .slice B2 (toS (bestQ a0_0 l0_1 l1)).f1.length bc2, .slice (some ⟨G, 0, none⟩) l0_1.length l0_1.length] 41 (0, 0)) ∧ wr.heap[G]? = some (.cells (TN.map fun n : Nat => Value.int .i64 (n : Int)).toArray 3 (0, 0))))
            (fun _ s18 _ => ((intOf s18) + 1).toNat)
          case atStart => exact ⟨(piecesOf l0_1 l1).length, a0_0.toNat, List.replicate l0_1.length 0, by rw [Int.toNat_of_nonneg ha0], rfl, Nat.le_refl _, Nat.le_refl _, ⟨TakenAt.start _ _ _ _ _⟩, ⟨HYN.out.1, HYN.out.2.1, HYN.out.2.2.1⟩⟩
          case round =>
            obtain ⟨n, q, TN, rfl, rfl, hnp, hqa, hTk, hWr⟩ := hrel
            cases n with
            | zero =>
              rw [show ((0 : Nat) : Int) - 1 = -1 from rfl]
              have hkfw := HKF.out.below hWr.out.1
              obtain ⟨o0, o1, o2, o3, -⟩ := box4_cells hWr.out.2.1
              obtain ⟨r0, r1, r2, r3, rf0, rf1, rf2, rf3⟩ := box4_cells hkfw.b4
              have HFW := Aside0.mk hkfw
              clear hkfw s0 c9
              gi_wp2
              have hKw : wr.heap[D]? = some (.deferred (some [])) := z09q HKD.out hWr.out.1
              have hDb : D ≠ w.heap.size + 1 + 1 := fun e => by rw [e, HFW.out.b4] at hKw; cases hKw
              have hDG : D ≠ G := fun e => by rw [e, hWr.out.2.2] at hKw; cases hKw
              have hGb4 : G ≠ w.heap.size + 1 + 1 := by have := HYN.out.2.2.2.2.1; have := HKF.out.sz; omega
              have hK4 : (set4 wr (w.heap.size + 1 + 1) (.bool (toS (bestQ a0_0 l0_1 l1)).f0.f0) (.slice B1 (toS (bestQ a0_0 l0_1 l1)).f0.f1.length bc1) (.slice B2 (toS (bestQ a0_0 l0_1 l1)).f1.length bc2) (.slice (some ⟨G, 0, none⟩) l0_1.length l0_1.length)).heap[D]? = some (.deferred (some [])) :=
                ((Below.heap_setCell _ ⟨w.heap.size + 1 + 1, 3, none⟩ _ D hDb).trans ((Below.heap_setCell _ ⟨w.heap.size + 1 + 1, 2, none⟩ _ D hDb).trans ((Below.heap_setCell _ ⟨w.heap.size + 1 + 1, 1, none⟩ _ D hDb).trans (Below.heap_setCell _ ⟨w.heap.size + 1 + 1, 0, none⟩ _ D hDb)))).trans hKw
              have hG4 : (set4 wr (w.heap.size + 1 + 1) (.bool (toS (bestQ a0_0 l0_1 l1)).f0.f0) (.slice B1 (toS (bestQ a0_0 l0_1 l1)).f0.f1.length bc1) (.slice B2 (toS (bestQ a0_0 l0_1 l1)).f1.length bc2) (.slice (some ⟨G, 0, none⟩) l0_1.length l0_1.length)).heap[G]? = some (.cells (TN.map fun n : Nat => Value.int .i64 (n : Int)).toArray 3 (0, 0)) :=
                ((Below.heap_setCell _ ⟨w.heap.size + 1 + 1, 3, none⟩ _ G hGb4).trans ((Below.heap_setCell _ ⟨w.heap.size + 1 + 1, 2, none⟩ _ G hGb4).trans ((Below.heap_setCell _ ⟨w.heap.size + 1 + 1, 1, none⟩ _ G hGb4).trans (Below.heap_setCell _ ⟨w.heap.size + 1 + 1, 0, none⟩ _ G hGb4)))).trans hWr.out.2.2
              have hX4 := set4_heap HFW.out.b4 (.bool (toS (bestQ a0_0 l0_1 l1)).f0.f0) (.slice B1 (toS (bestQ a0_0 l0_1 l1)).f0.f1.length bc1) (.slice B2 (toS (bestQ a0_0 l0_1 l1)).f1.length bc2) (.slice (some ⟨G, 0, none⟩) l0_1.length l0_1.length)
              have hE4 := (HEB.out.keep (Tkeep.below hWr.out.1)).keep (Tkeep.set4 HFW.out.b4 (by decide) (.bool (toS (bestQ a0_0 l0_1 l1)).f0.f0) (.slice B1 (toS (bestQ a0_0 l0_1 l1)).f0.f1.length bc1) (.slice B2 (toS (bestQ a0_0 l0_1 l1)).f1.length bc2) (.slice (some ⟨G, 0, none⟩) l0_1.length l0_1.length))
              have hB4 := set4_below (b := w.heap.size + 1 + 1) (by omega) HFW.out.bel (.bool (toS (bestQ a0_0 l0_1 l1)).f0.f0) (.slice B1 (toS (bestQ a0_0 l0_1 l1)).f0.f1.length bc1) (.slice B2 (toS (bestQ a0_0 l0_1 l1)).f1.length bc2) (.slice (some ⟨G, 0, none⟩) l0_1.length l0_1.length)
              obtain ⟨Z4, hZ4⟩ : ∃ Z4, set4 wr (w.heap.size + 1 + 1) (.bool (toS (bestQ a0_0 l0_1 l1)).f0.f0) (.slice B1 (toS (bestQ a0_0 l0_1 l1)).f0.f1.length bc1) (.slice B2 (toS (bestQ a0_0 l0_1 l1)).f1.length bc2) (.slice (some ⟨G, 0, none⟩) l0_1.length l0_1.length) = Z4 := ⟨_, rfl⟩
              rw [hZ4] at hK4 hG4 hX4 hE4 hB4
              unfold set4 at hZ4
              rw [hZ4]
              have hDw : w.heap.size ≤ D := by have := HK5.out.sz; omega
              have hTN := hTk.out.1
              rw [TakenAt.fin hTk.out]
              rw [← hTN] at hX4 ⊢
              refine ⟨by simp, .inl ⟨_, _, rfl, run_takeDeferred hK4, ?_⟩⟩
              refine ⟨_, results_ct rfl _ _ (w.heap.size + 1 + 1) 41 _ (0, 0) _ rfl ((World.putObj_heap_other (Ne.symm hDb)).trans hX4) Try.underlying41 rfl (by kernel_rfl), ?_⟩
              have hfin := bestPost_done (hE4.keep (Tkeep.put (o' := .deferred none) hK4 rfl)) ((World.putObj_heap_other (Ne.symm hDG)).trans hG4) (by have := HYN.out.2.2.2.2.1; have := HKF.out.bel.size; omega) (by omega) (hB4.trans (belowK_b (w := w) (Nat.le_refl _) Z4 D _ (.deferred none) hDw hK4 rfl rfl))
              exact hfin
            | succ n =>
              rw [show ((n + 1 : Nat) : Int) - 1 = (n : Int) by omega]
              have hn0 : (0 : Int) ≤ (n : Int) := Int.natCast_nonneg _
              have hnl : n < (piecesOf l0_1 l1).length := by omega
              have hkm := pieces_lt hnl
              have hqN : q < N := by omega
              have hqN' : (q : Int) < (N : Int) := by omega
              have hq0 : (0 : Int) ≤ (q : Int) := Int.natCast_nonneg _
              obtain ⟨k, hk⟩ : ∃ k, (piecesOf l0_1 l1).getD n 0 = k := ⟨_, rfl⟩
              have HKK : Hid ((piecesOf l0_1 l1).getD n 0 = k) := hk
              rw [hk] at hkm
              obtain ⟨g10, cp10, e10, -⟩ := (HO10.out).form (by omega)
              obtain ⟨g9, cp9, e9, -⟩ := (HO9.out).form (by omega)
              subst e10
              injection e9 with e9a e9b e9c
              subst e9a
              subst e9c
              clear e9b
              have hgl : n < gs.length := by rw [HGS.out]; exact hnl
              obtain ⟨gr, hgr⟩ : ∃ gr, gs[n]? = some gr := ⟨_, List.getElem?_eq_getElem hgl⟩
              have u10 : wr.cell? ⟨g10, n, none⟩ = some (.slice (some ⟨gr, 0, none⟩) N N) := by
                refine z15q hWr.out.1 ((HO10.out.cellAt n (by omega)).trans ?_)
                rw [List.getElem?_map, hgr]; rfl
              have u9 : wr.cell? ⟨g9, n, none⟩ = some (.int .i64 (k : Int)) := by
                refine z15q hWr.out.1 ((HO9.out.cellAt n (by omega)).trans ?_)
                rw [List.getElem?_map, List.getElem?_eq_getElem hnl]
                have : (piecesOf l0_1 l1)[n] = k := by rw [← hk]; simp [List.getD, hnl]
                rw [this]; rfl
              have ub : wr.cell? ⟨gr, q, none⟩ = some (.bool (ksCond (wdOf l0_1) (vOf l1) ((piecesOf l0_1 l1).take n).reverse k q)) := by
                refine z15q hWr.out.1 ((HRW.out n gr hgr).at ?_)
                rw [rowL_at hqN, hk]
              have t10 := z15q hWr.out.1 HBX10.out.cell
              have t9 := z15q hWr.out.1 HBX9.out.cell
              have hnl' : (n : Int) < ((piecesOf l0_1 l1).length : Int) := by omega
              obtain ⟨cd, hcd⟩ : ∃ b, ksCond (wdOf l0_1) (vOf l1) ((piecesOf l0_1 l1).take n).reverse k q = b := ⟨_, rfl⟩
              rw [hcd] at ub
              have HCD : Hid (ksCond (wdOf l0_1) (vOf l1) ((piecesOf l0_1 l1).take n).reverse k q = cd) := hcd
              clear hcd hk hgr s0 c9
              cases cd with
              | false =>
                gi_wp2
                refine ⟨⟨n, q, TN, rfl, rfl, by omega, hqa, ⟨hTk.out.no hnl (by rw [HKK.out]; exact HCD.out)⟩, hWr⟩, by simp [intOf]⟩
              | true =>
                have hkl1 : (k : Int) < (l0_1.length : Int) := by omega
                have hk0 : (0 : Int) ≤ (k : Int) := Int.natCast_nonneg _
                have hcw := HCD.out
                unfold ksCond at hcw
                have hwk := (of_decide_eq_true hcw).1
                obtain ⟨x0', x1', x2', x3', -⟩ := box4_cells hWr.out.2.1
                have ut : wr.cell? ⟨G, k, none⟩ = some (.int .i64 ((TN.getD k 0 : Nat) : Int)) := ints_at hWr.out.2.2 (by rw [hTk.out.1]; exact hkm)
                have utf := z08q hWr.out.2.2 k
                obtain ⟨tk, htk⟩ : ∃ t, TN.getD k 0 = t := ⟨_, rfl⟩
                rw [htk] at ut
                have htb : tk ≤ 64 := by
                  have h1 := hTk.out.2 k hkm
                  have h2 := (ksTk_sub (wdOf l0_1) (vOf l1) (piecesOf l0_1 l1).reverse a0_0.toNat).length_le
                  have h3 := List.count_le_length (a := k) (l := ksTk (wdOf l0_1) (vOf l1) (piecesOf l0_1 l1).reverse a0_0.toNat)
                  rw [List.length_reverse] at h2
                  omega
                have hs1 : IntKind.i64.wrap ((tk : Int) + 1) = (tk : Int) + 1 := by rw [IntKind.wrap_i64]; omega
                have HTN : Hid (TN.getD k 0 = tk) := htk
                have HWK : Hid (wdOf l0_1 k ≤ q) := hwk
                clear hcw hwk htk
                gi_wp2
                have hS0 : BelowS wr wr.drew := (Below.refl _ wr).drew
                refine wpIn_region_heldB (fun w' => BelowS wr w') (fun i => decide (i < 10)) hmx ?_
                show wpAnyBIn _ _ _ _ _ _ _ _ 11 #[false, false, false, false, false, false, false, false, false, false, false] _ _
                refine z21q (i := 0) (v := .pointer (some ⟨X, 3, none⟩)) (dst := 153) (by kernel_rfl) rfl rfl (by kernel_rfl) (by kernel_rfl) (by kernel_rfl) (by kernel_rfl) (by kernel_rfl) (fun _ _ _ h => h) ⟨Or.inl ⟨by rfl, fun w' hw' => ?_⟩, fun _ => rfl⟩ hS0 ?_
                · (go_simp)
                simp only [sT_]
                refine z21q (i := 1) (v := .slice (some ⟨G, 0, none⟩) l0_1.length l0_1.length) (dst := 154) (by kernel_rfl) rfl rfl (by kernel_rfl) (by kernel_rfl) (by kernel_rfl) (by kernel_rfl) (by kernel_rfl) (fun _ _ _ h => h) ⟨Or.inl ⟨by rfl, fun w' hw' => ?_⟩, fun _ => rfl⟩ hS0 ?_
                · (have gg0 := z15q hw' x3'; go_simp)
                simp only [sT_]
                refine z21q (i := 2) (v := .slice (some ⟨g9, 0, none⟩) (piecesOf l0_1 l1).length C9) (dst := 155) (by kernel_rfl) rfl rfl (by kernel_rfl) (by kernel_rfl) (by kernel_rfl) (by kernel_rfl) (by kernel_rfl) (fun _ _ _ h => h) ⟨Or.inl ⟨by rfl, fun w' hw' => ?_⟩, fun _ => rfl⟩ hS0 ?_
                · (have gg0 := z15q hw' t9; go_simp)
                simp only [sT_]
                refine z21q (i := 3) (v := .int .i64 (n : Int)) (dst := 156) (by kernel_rfl) rfl rfl (by kernel_rfl) (by kernel_rfl) (by kernel_rfl) (by kernel_rfl) (by kernel_rfl) (fun _ _ _ h => h) ⟨Or.inl ⟨by rfl, fun w' hw' => ?_⟩, fun _ => rfl⟩ hS0 ?_
                · (go_simp)
                simp only [sT_]
                refine z21q (i := 4) (v := .pointer (some ⟨g9, n, none⟩)) (dst := 157) (by kernel_rfl) rfl rfl (by kernel_rfl) (by kernel_rfl) (by kernel_rfl) (by kernel_rfl) (by kernel_rfl) (fun _ _ _ h => h) ⟨Or.inl ⟨by rfl, fun w' hw' => ?_⟩, fun _ => rfl⟩ hS0 ?_
                · (go_simp)
                simp only [sT_]
                refine z21q (i := 5) (v := .int .i64 (k : Int)) (dst := 158) (by kernel_rfl) rfl rfl (by kernel_rfl) (by kernel_rfl) (by kernel_rfl) (by kernel_rfl) (by kernel_rfl) (fun _ _ _ h => h) ⟨Or.inl ⟨by rfl, fun w' hw' => ?_⟩, fun _ => rfl⟩ hS0 ?_
                · (have gg0 := z15q hw' u9; go_simp)
                simp only [sT_]
                refine z21q (i := 6) (v := .pointer (some ⟨G, k, none⟩)) (dst := 159) (by kernel_rfl) rfl rfl (by kernel_rfl) (by kernel_rfl) (by kernel_rfl) (by kernel_rfl) (by kernel_rfl) (fun _ _ _ h => h) ⟨Or.inl ⟨by rfl, fun w' hw' => ?_⟩, fun _ => rfl⟩ hS0 ?_
                · (go_simp)
                simp only [sT_]
                refine z21q (i := 7) (v := .int .i64 (tk : Int)) (dst := 160) (by kernel_rfl) rfl rfl (by kernel_rfl) (by kernel_rfl) (by kernel_rfl) (by kernel_rfl) (by kernel_rfl) (fun _ _ _ h => h) ⟨Or.inl ⟨by rfl, fun w' hw' => ?_⟩, fun _ => rfl⟩ hS0 ?_
                · (have gg0 := z15q hw' ut; go_simp)
                simp only [sT_]
                refine z21q (i := 8) (v := .int .i64 ((tk : Int) + 1)) (dst := 161) (by kernel_rfl) rfl rfl (by kernel_rfl) (by kernel_rfl) (by kernel_rfl) (by kernel_rfl) (by kernel_rfl) (fun _ _ _ h => h) ⟨Or.inl ⟨by rfl, fun w' hw' => ?_⟩, fun _ => rfl⟩ hS0 ?_
                · (go_simp)
                simp only [sT_]
                refine z21q (i := 9) (v := .pointer (some ⟨G, k, none⟩)) (dst := 162) (by kernel_rfl) rfl rfl (by kernel_rfl) (by kernel_rfl) (by kernel_rfl) (by kernel_rfl) (by kernel_rfl) (fun _ _ _ h => h) ⟨Or.inl ⟨by rfl, fun w' hw' => ?_⟩, fun _ => rfl⟩ hS0 ?_
                · (go_simp)
                simp only [sT_]
                refine wpAnyBIn_one (i := 10) (by kernel_rfl) rfl (fun K hK => ?_)
                go_simp
                refine hK _ _ (fun h => by cases h) ?_
                clear hK K
                simp only [sT_]
                refine wpAnyBIn_done (by kernel_rfl) ?_
                obtain ⟨V, hV⟩ : ∃ V, (wr.setCell ⟨G, k, none⟩ (.int .i64 ((tk : Int) + 1))).drew = V := ⟨_, rfl⟩
                have hUV : Below U.heap.size U V := by
                  rw [← hV]
                  exact (hWr.out.1.setCell (p := ⟨G, k, none⟩) HYN.out.2.2.2.2.1 _).drew
                have hGV : V.heap[G]? = some (.cells ((TN.set k (tk + 1)).map fun n : Nat => Value.int .i64 (n : Int)).toArray 3 (0, 0)) := by
                  rw [← hV]
                  exact ints_set hWr.out.2.2 k (tk + 1)
                have hXV : V.heap[X]? = some (.cells #[.bool (toS (bestQ a0_0 l0_1 l1)).f0.f0, .slice B1 (toS (bestQ a0_0 l0_1 l1)).f0.f1.length bc1, .slice B2 (toS (bestQ a0_0 l0_1 l1)).f1.length bc2, .slice (some ⟨G, 0, none⟩) l0_1.length l0_1.length] 41 (0, 0)) := by
                  rw [← hV]
                  exact (Below.heap_setCell wr ⟨G, k, none⟩ _ X HYN.out.2.2.2.2.2).trans hWr.out.2.1
                rw [hV]
                have HVV := Aside0.mk (And.intro hUV (And.intro hXV hGV))
                have hkfV := HKF.out.below hUV
                have s1V := (z26q hkfV.b2).2
                have t9V := z15q hUV HBX9.out.cell
                have u9V : V.cell? ⟨g9, n, none⟩ = some (.int .i64 (k : Int)) := by
                  refine z15q hUV ((HO9.out.cellAt n (by omega)).trans ?_)
                  rw [List.getElem?_map, List.getElem?_eq_getElem hnl]
                  have : (piecesOf l0_1 l1)[n] = k := by rw [← HKK.out]; simp [List.getD, hnl]
                  rw [this]; rfl
                obtain ⟨ad, e0, hx0, -⟩ := at_T46 (Kd.C_below HR.out hkfV.bel) (k : Int) (by omega) (by omega)
                cases e0
                rw [show ((k : Int)).toNat = k from rfl] at hx0
                obtain ⟨y, hy⟩ : ∃ y, rd_T46 l0_1 (k : Int) = y := ⟨_, rfl⟩
                rw [hy] at hx0
                have hyb : itemB y = true := by
                  rw [← hy]
                  refine item_at ?_ hkm
                  have := HRI.out
                  unfold rightB at this
                  rw [Bool.and_eq_true] at this
                  exact this.2
                have hyb2 := of_decide_eq_true hyb
                obtain ⟨wf, hwf⟩ : ∃ f : Nat, y.f0 = (f : Int) := ⟨y.f0.toNat, by omega⟩
                have HWF : Hid (wdOf l0_1 k = wf) := by
                  show (rd_T46 l0_1 (k : Int)).f0.toNat = wf
                  rw [hy, hwf]; rfl
                rw [hwf] at hx0
                have hwq : wf ≤ q := by rw [← HWF.out]; exact HWK.out
                obtain ⟨d, hd⟩ : ∃ d, q = d + wf := ⟨q - wf, by omega⟩
                have hsub1 : (q : Int) - (wf : Int) = (d : Int) := by omega
                have hd512 : d ≤ 512 := by omega
                have hsub3 : IntKind.i64.wrap (d : Int) = (d : Int) := wrap_small (by omega)
                have hdq : d ≤ a0_0.toNat := by omega
                have HDQ : Hid (q - wdOf l0_1 k = d) := by
                  show q - wdOf l0_1 k = d
                  rw [HWF.out]
                  omega
                clear hV hUV hGV hXV hkfV hy hyb hyb2 hwf hwq hd hS0 x0' x1' x2' x3' ut utf t10 t9 u10 u9 ub hs1
                gi_wp2
                have hS0 : BelowS V V.drew := (Below.refl _ V).drew
                refine wpIn_region_held (fun w' => BelowS V w') hmx ?_
                show wpAnyHIn _ _ _ _ _ _ _ 12 #[false, false, false, false, false, false, false, false, false, false, false, false] _ _
                refine z12q (i := 0) (v := .int .i64 (q : Int)) (dst := 163) (by kernel_rfl) rfl rfl (by kernel_rfl) (by kernel_rfl) (by kernel_rfl) (fun _ _ _ h => h) ⟨Or.inl ⟨by rfl, fun w' hw' => ?_⟩, fun _ => rfl⟩ hS0 ?_
                · (go_simp)
                simp only [sT_]
                refine z12q (i := 1) (v := .pointer (some ⟨w.heap.size, 1, none⟩)) (dst := 164) (by kernel_rfl) rfl rfl (by kernel_rfl) (by kernel_rfl) (by kernel_rfl) (fun _ _ _ h => h) ⟨Or.inl ⟨by rfl, fun w' hw' => ?_⟩, fun _ => rfl⟩ hS0 ?_
                · (go_simp)
                simp only [sT_]
                refine z12q (i := 2) (v := .slice (some ad) l0_1.length c0_1) (dst := 165) (by kernel_rfl) rfl rfl (by kernel_rfl) (by kernel_rfl) (by kernel_rfl) (fun _ _ _ h => h) ⟨Or.inl ⟨by rfl, fun w' hw' => ?_⟩, fun _ => rfl⟩ hS0 ?_
                · (have gg0 := z15q hw' s1V; go_simp)
                simp only [sT_]
                refine z12q (i := 3) (v := .slice (some ⟨g9, 0, none⟩) (piecesOf l0_1 l1).length C9) (dst := 166) (by kernel_rfl) rfl rfl (by kernel_rfl) (by kernel_rfl) (by kernel_rfl) (fun _ _ _ h => h) ⟨Or.inl ⟨by rfl, fun w' hw' => ?_⟩, fun _ => rfl⟩ hS0 ?_
                · (have gg0 := z15q hw' t9V; go_simp)
                simp only [sT_]
                refine z12q (i := 4) (v := .int .i64 (n : Int)) (dst := 167) (by kernel_rfl) rfl rfl (by kernel_rfl) (by kernel_rfl) (by kernel_rfl) (fun _ _ _ h => h) ⟨Or.inl ⟨by rfl, fun w' hw' => ?_⟩, fun _ => rfl⟩ hS0 ?_
                · (go_simp)
                simp only [sT_]
                refine z12q (i := 5) (v := .pointer (some ⟨g9, n, none⟩)) (dst := 168) (by kernel_rfl) rfl rfl (by kernel_rfl) (by kernel_rfl) (by kernel_rfl) (fun _ _ _ h => h) ⟨Or.inl ⟨by rfl, fun w' hw' => ?_⟩, fun _ => rfl⟩ hS0 ?_
                · (go_simp)
                simp only [sT_]
                refine z12q (i := 6) (v := .int .i64 (k : Int)) (dst := 169) (by kernel_rfl) rfl rfl (by kernel_rfl) (by kernel_rfl) (by kernel_rfl) (fun _ _ _ h => h) ⟨Or.inl ⟨by rfl, fun w' hw' => ?_⟩, fun _ => rfl⟩ hS0 ?_
                · (have gg0 := z15q hw' u9V; go_simp)
                simp only [sT_]
                refine z12q (i := 7) (v := .pointer (some (ad.add (k * 2)))) (dst := 170) (by kernel_rfl) rfl rfl (by kernel_rfl) (by kernel_rfl) (by kernel_rfl) (fun _ _ _ h => h) ⟨Or.inl ⟨by rfl, fun w' hw' => ?_⟩, fun _ => rfl⟩ hS0 ?_
                · (go_simp)
                simp only [sT_]
                refine z12q (i := 8) (v := .pointer (some (ad.add (k * 2)))) (dst := 171) (by kernel_rfl) rfl rfl (by kernel_rfl) (by kernel_rfl) (by kernel_rfl) (fun _ _ _ h => h) ⟨Or.inl ⟨by rfl, fun w' hw' => ?_⟩, fun _ => rfl⟩ hS0 ?_
                · (go_simp)
                simp only [sT_]
                refine z12q (i := 9) (v := .int .i64 (wf : Int)) (dst := 172) (by kernel_rfl) rfl rfl (by kernel_rfl) (by kernel_rfl) (by kernel_rfl) (fun _ _ _ h => h) ⟨Or.inl ⟨by rfl, fun w' hw' => ?_⟩, fun _ => rfl⟩ hS0 ?_
                · (have gg0 := z15q hw' hx0; go_simp)
                simp only [sT_]
                refine z12q (i := 10) (v := .int .i64 (d : Int)) (dst := 173) (by kernel_rfl) rfl rfl (by kernel_rfl) (by kernel_rfl) (by kernel_rfl) (fun _ _ _ h => h) ⟨Or.inl ⟨by rfl, fun w' hw' => ?_⟩, fun _ => rfl⟩ hS0 ?_
                · (go_simp)
                simp only [sT_]
                refine z12q (i := 11) (v := .int .i64 (d : Int)) (dst := 17) (by kernel_rfl) rfl rfl (by kernel_rfl) (by kernel_rfl) (by kernel_rfl) (fun _ _ _ h => h) ⟨Or.inl ⟨by rfl, fun w' hw' => ?_⟩, fun _ => rfl⟩ hS0 ?_
                · (go_simp)
                simp only [sT_]
                refine wpAnyHIn_done (by kernel_rfl) ?_
                gi_wp2
                refine ⟨⟨n, d, TN.set k (tk + 1), rfl, rfl, by omega, hdq, ⟨?_⟩, ⟨HVV.out.1.drew, HVV.out.2.1, HVV.out.2.2⟩⟩, by simp [intOf]⟩
                have h1 := hTk.out.yes hnl (by rw [HKK.out]; exact HCD.out) (by rw [HKK.out]; exact hkm)
                rw [HKK.out, HTN.out, HDQ.out] at h1
                exact h1
      case stop =>
        rintro D c pre U _ _ h _
        exact h.elim
theorem knap_Best.calls (a0_0 : Int) (A0_1 : Option Addr) (c0_1 : Nat) (l0_1 : List (S46)) (A1 : Option Addr) (c1 : Nat) (l1 : List (S39)) (r1 : Bool) (r2 r3 r4 : List Int) (r5 : Int) (w : World) (hr0_1 : Kd.C k46 w A0_1 l0_1.length l0_1) (hc0_1 : l0_1.length ≤ c0_1) (hr1 : Kd.C k39 w A1 l1.length l1) (hc1 : l1.length ≤ c1) (h : knap_Best.f a0_0 l0_1 l1 = some (r1, r2, r3, r4, r5)) :
    Calls Try.prog 11 #[.agg #[.int .i64 a0_0, .slice A0_1 l0_1.length c0_1], .slice A1 l1.length c1] w fun e w' => ∃ v1_ v2_ v3_ : Value, e = .returned (.tuple #[.agg #[.bool r1, v1_, v2_, v3_], .int .i64 r5]) ∧ Kd.R (Kd.int .u32) 96 w' w.heap.size (fun k_ => some k_ ≠ (v2_ : Value).ownBlock ∧ some k_ ≠ (v3_ : Value).ownBlock) v1_ r2 ∧ Kd.R (Kd.int .u32) 96 w' w.heap.size (fun k_ => some k_ ≠ (v1_ : Value).ownBlock ∧ some k_ ≠ (v3_ : Value).ownBlock) v2_ r3 ∧ Kd.R (Kd.int .i64) 3 w' w.heap.size (fun k_ => some k_ ≠ (v1_ : Value).ownBlock ∧ some k_ ≠ (v2_ : Value).ownBlock) v3_ r4 ∧ Below w.heap.size w w' := by
  show Calls Try.prog 11 _ w (BestPost w r1 r2 r3 r4 r5)
  unfold knap_Best.f at h
  by_cases h1 : rightB a0_0 l0_1 = false
  · rw [if_pos h1] at h
    simp only [Option.some.injEq, Prod.mk.injEq] at h
    obtain ⟨rfl, rfl, rfl, rfl, rfl⟩ := h
    exact knap_Best.early a0_0 A0_1 c0_1 l0_1 A1 c1 l1 1 w hr0_1 hc0_1 (.inl ⟨h1, rfl⟩)
  · rw [if_neg h1] at h
    rw [Bool.not_eq_false] at h1
    by_cases h2 : l1.length ≠ l0_1.length
    · rw [if_pos h2] at h
      simp only [Option.some.injEq, Prod.mk.injEq] at h
      obtain ⟨rfl, rfl, rfl, rfl, rfl⟩ := h
      exact knap_Best.early a0_0 A0_1 c0_1 l0_1 A1 c1 l1 7 w hr0_1 hc0_1 (.inr (.inl ⟨h1, h2, rfl⟩))
    · rw [if_neg h2] at h
      have h2' : l1.length = l0_1.length := Decidable.not_not.1 h2
      by_cases h3 : 512 < a0_0 ∨ 64 < sumN l0_1
      · rw [if_pos h3] at h
        simp only [Option.some.injEq, Prod.mk.injEq] at h
        obtain ⟨rfl, rfl, rfl, rfl, rfl⟩ := h
        by_cases h4 : 512 < a0_0
        · exact knap_Best.early a0_0 A0_1 c0_1 l0_1 A1 c1 l1 4 w hr0_1 hc0_1 (.inr (.inr (.inl ⟨h1, h2', h4, rfl⟩)))
        · exact knap_Best.early a0_0 A0_1 c0_1 l0_1 A1 c1 l1 4 w hr0_1 hc0_1 (.inr (.inr (.inr ⟨h1, h2', by omega, by omega, rfl⟩)))
      · rw [if_neg h3] at h
        by_cases h5 : l1.all goodS = true
        · rw [if_pos h5] at h
          simp only [Option.some.injEq, Prod.mk.injEq] at h
          obtain ⟨rfl, rfl, rfl, rfl, rfl⟩ := h
          exact knap_Best.main a0_0 A0_1 c0_1 l0_1 A1 c1 l1 w hr0_1 hc0_1 hr1 h1 h2' (by omega) (by omega) h5
        · rw [if_neg h5] at h
          cases h
end
end Go.Proofs.Ytgnffmbaecabnaa.M
