-- Printed by a program of this session's own (wip/myprint.py), out of the kit's print with functions given by hand. Lean checks it.
import Derived.Test.YtgnffmbaecabnaaM0
import Derived.Test.YtgnffmbaecabnaaM1
import Derived.Test.YtgnffmbaecabnaaM2
import Derived.Test.YtgnffmbaecabnaaM3
namespace Go.Proofs.Ytgnffmbaecabnaa.M
open Go.RowKit Go.Shelf Go.Proofs.YtgnffmbaecabnaaW.PrintWords Go.Proofs.YtgnffmbaecabnaaW.PrintLast Go.Proofs.YtgnffmbaecabnaaW.PrintMore
attribute [local go_sem] z33q z31q max_two min_two z28q z27q z32q z30q   -- for this text's walks alone
set_option linter.unusedVariables false
set_option linter.unusedSimpArgs false
set_option maxRecDepth 100000
def V : List Int → Nat
  | [] => 0
  | x :: xs => x.toNat + 4294967296 * V xs
def W32 (l : List Int) : Prop := ∀ x ∈ l, 0 ≤ x ∧ x < 4294967296
def dgF : Nat → Nat → List Int
  | 0, _ => []
  | f + 1, n => if n = 0 then [] else ((n % 4294967296 : Nat) : Int) :: dgF f (n / 4294967296)
def dg (n : Nat) : List Int := dgF n n
theorem dgF_eq (f : Nat) : ∀ n g, n ≤ f → n ≤ g → dgF f n = dgF g n := by
  induction f with
  | zero => intro n g h1 h2; obtain rfl : n = 0 := by omega
            cases g <;> simp [dgF]
  | succ f ih =>
    intro n g h1 h2
    cases g with
    | zero => obtain rfl : n = 0 := by omega
              simp [dgF]
    | succ g =>
      unfold dgF
      by_cases h : n = 0
      · simp [h]
      · rw [if_neg h, if_neg h, ih (n / 4294967296) g (by omega) (by omega)]
theorem dg_zero : dg 0 = [] := rfl
theorem dg_pos {n : Nat} (h : 0 < n) : dg n = ((n % 4294967296 : Nat) : Int) :: dg (n / 4294967296) := by
  unfold dg
  obtain ⟨f, rfl⟩ : ∃ f, n = f + 1 := ⟨n - 1, by omega⟩
  rw [dgF, if_neg (by omega), dgF_eq f _ ((f + 1) / 4294967296) (by omega) (Nat.le_refl _)]
theorem V_dg (n : Nat) : V (dg n) = n := by
  induction n using Nat.strongRecOn with
  | _ n ih =>
    rcases Nat.eq_zero_or_pos n with rfl | h
    · rfl
    · rw [dg_pos h, V, ih _ (by omega)]; omega
theorem W32_dg (n : Nat) : W32 (dg n) := by
  induction n using Nat.strongRecOn with
  | _ n ih =>
    rcases Nat.eq_zero_or_pos n with rfl | h
    · intro x hx; simp [dg_zero] at hx
    · rw [dg_pos h]
      intro x hx
      rcases List.mem_cons.1 hx with rfl | hx
      · omega
      · exact ih _ (by omega) x hx
theorem W32_cons {x : Int} {l : List Int} : W32 (x :: l) ↔ (0 ≤ x ∧ x < 4294967296) ∧ W32 l := by simp [W32]
theorem W32_take {l : List Int} (h : W32 l) (n : Nat) : W32 (l.take n) := fun x hx => h x (List.mem_of_mem_take hx)
theorem W32_replicate (n : Nat) : W32 (List.replicate n 0) := fun x hx => by rw [List.mem_replicate] at hx; omega
theorem W32_set {l : List Int} (h : W32 l) (i : Nat) {v : Int} (h0 : 0 ≤ v) (h1 : v < 4294967296) : W32 (l.set i v) := fun x hx => by
  rcases List.mem_or_eq_of_mem_set hx with hx | rfl
  · exact h x hx
  · exact ⟨h0, h1⟩
theorem z34q {l : List Int} (h : W32 l) (i : Nat) : 0 ≤ l.getD i 0 ∧ l.getD i 0 < 4294967296 := by
  rw [List.getD_eq_getElem?_getD]
  rcases Nat.lt_or_ge i l.length with hi | hi
  · rw [List.getElem?_eq_getElem hi]; exact h _ (List.getElem_mem hi)
  · rw [List.getElem?_eq_none hi]; simp
theorem V_append (a b : List Int) : V (a ++ b) = V a + 4294967296 ^ a.length * V b := by
  induction a with
  | nil => simp [V]
  | cons x xs ih => simp only [List.cons_append, V, ih, List.length_cons, Nat.pow_succ]; grind
theorem V_lt {l : List Int} (h : W32 l) : V l < 4294967296 ^ l.length := by
  induction l with
  | nil => simp [V]
  | cons x xs ih =>
    have h1 := ih (W32_cons.1 h).2
    have h2 := (W32_cons.1 h).1
    simp only [V, List.length_cons, Nat.pow_succ]
    omega
theorem V_replicate (n : Nat) : V (List.replicate n 0) = 0 := by
  induction n with
  | zero => rfl
  | succ n ih => simp [List.replicate_succ, V, ih]
theorem V_drop (l : List Int) (i : Nat) : V (l.drop i) = (l.getD i 0).toNat + 4294967296 * V (l.drop (i + 1)) := by
  rcases Nat.lt_or_ge i l.length with hi | hi
  · rw [List.drop_eq_getElem_cons hi, V]
    simp [List.getD, hi]
  · rw [List.drop_eq_nil_of_le hi, List.drop_eq_nil_of_le (by omega)]
    simp [List.getD, hi, V]
theorem V_take (l : List Int) (i : Nat) (hi : i < l.length) : V (l.take (i + 1)) = V (l.take i) + 4294967296 ^ i * (l.getD i 0).toNat := by
  rw [List.take_succ_eq_append_getElem hi, V_append, List.length_take, Nat.min_eq_left (by omega)]
  simp [V, List.getD, hi]
theorem take_set_succ (l : List Int) (i : Nat) (v : Int) (hi : i < l.length) : (l.set i v).take (i + 1) = l.take i ++ [v] := by
  rw [List.take_succ_eq_append_getElem (by simpa using hi), List.take_set_of_le (Nat.le_refl _)]
  simp
theorem V_split (l : List Int) (i : Nat) : V l = V (l.take i) + 4294967296 ^ (l.take i).length * V (l.drop i) := by
  rw [← V_append, List.take_append_drop]
theorem V_set (l : List Int) (i : Nat) (v : Int) (hi : i < l.length) : V (l.set i v) + (l.getD i 0).toNat * 4294967296 ^ i = V l + v.toNat * 4294967296 ^ i := by
  have h1 := V_split (l.set i v) (i + 1)
  have h2 := V_split l (i + 1)
  rw [take_set_succ l i v hi, V_append] at h1
  rw [V_take l i hi] at h2
  rw [show (l.set i v).drop (i + 1) = l.drop (i + 1) from List.drop_set_of_lt (by omega)] at h1
  have l1 : (l.take i ++ [v]).length = i + 1 := by simp; omega
  have l2 : (l.take (i + 1)).length = i + 1 := by simp; omega
  have l3 : (l.take i).length = i := by simp; omega
  rw [l1, l3] at h1
  rw [l2] at h2
  simp only [V] at h1
  rw [h1, h2]
  grind
theorem dg_V {l : List Int} (h : W32 l) (h1 : ∀ hn : l ≠ [], l.getLast hn ≠ 0) : dg (V l) = l := by
  induction l with
  | nil => rfl
  | cons x xs ih =>
    have hx := (W32_cons.1 h).1
    have hxs := (W32_cons.1 h).2
    have ih' := ih hxs (fun hn => by have := h1 (by simp); rwa [List.getLast_cons hn] at this)
    have hpos : 0 < V (x :: xs) := by
      cases xs with
      | nil =>
        have := h1 (by simp)
        simp at this
        simp only [V]; omega
      | cons y ys =>
        simp only [V]
        have : V (y :: ys) ≠ 0 := fun e => by rw [e] at ih'; simp [dg_zero] at ih'
        simp only [V] at this
        omega
    rw [dg_pos hpos]
    have e1 : V (x :: xs) / 4294967296 = V xs := by simp only [V]; omega
    have e2 : ((V (x :: xs) % 4294967296 : Nat) : Int) = x := by simp only [V]; omega
    rw [e1, e2, ih']
theorem z19q {n m : Nat} : (dg n).length ≤ m ↔ n < 4294967296 ^ m := by
  induction m generalizing n with
  | zero =>
    rcases Nat.eq_zero_or_pos n with rfl | h
    · simp [dg_zero]
    · rw [dg_pos h]; simp; omega
  | succ m ih =>
    rcases Nat.eq_zero_or_pos n with rfl | h
    · simp [dg_zero]; exact Nat.pos_of_ne_zero (by simp)
    · rw [dg_pos h, List.length_cons, Nat.add_le_add_iff_right, ih, Nat.pow_succ]
      have : 0 < 4294967296 ^ m := Nat.pos_of_ne_zero (by simp)
      rw [Nat.div_lt_iff_lt_mul (by omega)]
theorem dg_nil {n : Nat} : dg n = [] ↔ n = 0 := by
  constructor
  · intro h
    have := V_dg n
    rw [h] at this
    exact this.symm
  · rintro rfl; rfl
theorem dg_length_mono {a b : Nat} (h : a ≤ b) : (dg a).length ≤ (dg b).length := z19q.2 (Nat.lt_of_le_of_lt h (z19q.1 (Nat.le_refl _)))
theorem z24q {x : Int} (h1 : -9223372036854775808 ≤ x) (h2 : x < 9223372036854775808) : wrap64 x = x := by unfold wrap64; omega
theorem ev_is {α : Type} {g : Nat → Option α} {a b : α} (h : Ev g a) (e : a = b) : Ev g b := e ▸ h
theorem ev_const {α : Type} {o : Option α} {r : α} (h : o = some r) : Ev (fun _ => o) r := ⟨0, fun _ _ => h⟩
theorem clone_eq {l : List Int} (h : l.length ≤ 35184372088832) : slices_Clone.f l = some l := by unfold slices_Clone.f; rw [if_pos h]
theorem rd_eq (l : List Int) (i : Nat) : rd l (i : Int) = l.getD i 0 := rfl
theorem getLast_take {l : List Int} {n : Nat} (h : n < l.length) (hn : l.take (n + 1) ≠ []) : (l.take (n + 1)).getLast hn = l.getD n 0 := by
  have e := List.take_succ_eq_append_getElem h
  have : (l.take (n + 1)).getLast hn = l[n] := by simp only [e]; exact List.getLast_concat
  rw [this]
  simp [List.getD, h]
theorem trim_loop (l : List Int) (hw : W32 l) (hl : l.length ≤ 17592186044416) (n : Nat) : n ≤ l.length → Ev (fun k => nat_trim.l0 k l (n : Int)) (dg (V (l.take n))) := by
  induction n with
  | zero =>
    intro _
    refine Ev.step (f := fun _ => some []) (fun k => ?_) (Ev.now _)
    simp only [nat_trim.l0]
    rw [if_neg (by omega), if_pos (by omega), if_pos (by omega)]
    rfl
  | succ n ih =>
    intro hn
    have e1 : wrap64 (((n + 1 : Nat) : Int) - 1) = (n : Int) := by rw [z24q (by omega) (by omega)]; omega
    by_cases h0 : l.getD n 0 = 0
    · refine Ev.step (f := fun k => nat_trim.l0 k l (n : Int)) (fun k => ?_) (ev_is (ih (by omega)) ?_)
      · simp only [nat_trim.l0]
        rw [if_pos (by omega), e1, if_pos (by omega), if_pos (by omega), rd_eq, if_pos h0]
      · rw [V_take l n (by omega), h0]; simp
    · refine Ev.step (f := fun _ => some (l.take (n + 1))) (fun k => ?_) (ev_is (Ev.now _) ?_)
      · simp only [nat_trim.l0]
        rw [if_pos (by omega), e1, if_pos (by omega), if_pos (by omega), rd_eq, if_neg h0, if_pos (by omega), if_pos (by omega)]
        rw [show ((n + 1 : Nat) : Int).toNat = n + 1 from rfl, clone_eq (by simp; omega)]
        rfl
      · exact (dg_V (W32_take hw _) (fun hn' => by rw [getLast_take (by omega)]; exact h0)).symm
theorem trim_ev {l : List Int} (hw : W32 l) (hl : l.length ≤ 17592186044416) : Ev (fun k => nat_trim.f k l) (dg (V l)) :=
  ev_is (trim_loop l hw hl l.length (Nat.le_refl _)) (by rw [List.take_length])
theorem wrap_u64 (n : Int) : IntKind.u64.wrap n = n % 18446744073709551616 := by simp [IntKind.wrap, IntKind.bits, IntKind.signed]
theorem z22q {n : Int} (h0 : 0 ≤ n) (h1 : n < 18446744073709551616) : IntKind.u64.wrap n = n := by rw [wrap_u64]; omega
theorem at_eq {l : List Int} (hw : W32 l) (i : Nat) : nat_at.f l (i : Int) = some (l.getD i 0) := by
  unfold nat_at.f
  by_cases h : (i : Int) < (l.length : Int)
  · have := z34q hw i
    rw [if_pos h, if_pos (by omega), rd_eq, z22q (by omega) (by omega)]
  · rw [if_neg h]
    simp [List.getD, show l.length ≤ i by omega]
theorem Of_ev {n : Int} (h0 : 0 ≤ n) (h1 : n < 18446744073709551616) : Ev (fun k => nat_Of.f k n) (dg n.toNat) := by
  unfold nat_Of.f
  refine Ev.bind (trim_ev (l := [n % 4294967296, (n / 4294967296) % 4294967296]) ?_ (by simp)) (ev_is (Ev.now _) ?_)
  · intro x hx
    simp at hx
    omega
  · congr 1
    simp only [V]
    omega
theorem add_loop {a b : List Int} (ha : W32 a) (hb : W32 b) (N : Nat) (hN : N ≤ 1099511627777) (hla : a.length < N) (hlb : b.length < N) (d : Nat) :
    ∀ (i : Nat) (x5 : List Int) (c : Nat), i + d = N → x5.length = N → W32 x5 → c ≤ 1 → (d = 0 → c = 0) → (d = 1 → (a.getD i 0).toNat + (b.getD i 0).toNat + c ≤ 1) →
    Ev (fun k => nat_Add.l0 k a b x5 (c : Int) (N : Int) (i : Int)) (dg (V (x5.take i) + 4294967296 ^ i * (c + V (a.drop i) + V (b.drop i)))) := by
  induction d with
  | zero =>
    intro i x5 c hd hx hw hc hc0 _
    obtain rfl : i = N := by omega
    refine Ev.step (f := fun k => (nat_trim.f k x5).bind fun t => some t) (fun k => ?_) (Ev.bind (trim_ev hw (by omega)) (ev_is (Ev.now _) ?_))
    · simp only [nat_Add.l0]
      rw [if_neg (by omega)]
    · rw [hc0 rfl, List.drop_eq_nil_of_le (by omega), List.drop_eq_nil_of_le (by omega), List.take_of_length_le (by omega)]
      simp [V]
  | succ d ih =>
    intro i x5 c hd hx hw hc _ hd1
    have h1 := z34q ha i
    have h2 := z34q hb i
    obtain ⟨s, hs⟩ : ∃ s : Nat, s = c + (a.getD i 0).toNat + (b.getD i 0).toNat := ⟨_, rfl⟩
    have e0 : IntKind.u64.wrap ((c : Int) + IntKind.u64.wrap (a.getD i 0 + b.getD i 0)) = (s : Int) := by
      rw [z22q (n := a.getD i 0 + b.getD i 0) (by omega) (by omega), z22q (by omega) (by omega)]; omega
    refine Ev.step (f := fun k => nat_Add.l0 k a b (x5.set i ((s : Int) % 4294967296)) (((s / 4294967296 : Nat) : Int)) (N : Int) ((i + 1 : Nat) : Int)) (fun k => ?_) (ev_is (ih (i + 1) (x5.set i ((s : Int) % 4294967296)) (s / 4294967296) (by omega) (by simpa using hx) (W32_set hw i (by omega) (by omega)) (by omega) ?_ ?_) ?_)
    · simp only [nat_Add.l0]
      rw [if_pos (by omega), at_eq ha, Option.bind_some, at_eq hb, Option.bind_some, if_pos (by omega), if_pos (by omega), e0]
      rw [show wrap64 ((i : Int) + 1) = ((i + 1 : Nat) : Int) from by rw [z24q (by omega) (by omega)]; omega]
      rfl
    · intro hd0
      have := hd1 (by omega)
      omega
    · intro hd0
      have e1 : a.getD (i + 1) 0 = 0 := by simp [List.getD, show a.length ≤ i + 1 by omega]
      have e2 : b.getD (i + 1) 0 = 0 := by simp [List.getD, show b.length ≤ i + 1 by omega]
      rw [e1, e2]
      simp
      omega
    · congr 1
      rw [take_set_succ _ _ _ (by omega), V_append, List.length_take, Nat.min_eq_left (by omega), V_drop a i, V_drop b i]
      simp only [V, Nat.pow_succ]
      have e3 : ((s : Int) % 4294967296).toNat = s % 4294967296 := by omega
      have e4 := Nat.mod_add_div s 4294967296
      rw [e3]
      generalize s % 4294967296 = r at *
      generalize s / 4294967296 = q at *
      subst hs
      generalize (a.getD i 0).toNat = x at *
      generalize (b.getD i 0).toNat = y at *
      have : x + y + c = r + 4294967296 * q := by omega
      generalize 4294967296 ^ i = B at *
      grind
theorem Add_ev {a b : List Int} (ha : W32 a) (hb : W32 b) (hla : a.length ≤ 1099511627776) (hlb : b.length ≤ 1099511627776) : Ev (fun k => nat_Add.f k a b) (dg (V a + V b)) := by
  have hm : mx (a.length : Int) (b.length : Int) = ((max a.length b.length : Nat) : Int) := by
    unfold mx
    rcases Nat.lt_or_ge a.length b.length with h | h
    · rw [if_pos (by omega), Nat.max_eq_right (by omega)]
    · rw [if_neg (by omega), Nat.max_eq_left (by omega)]
  have e1 : wrap64 (((max a.length b.length : Nat) : Int) + 1) = ((max a.length b.length + 1 : Nat) : Int) := by rw [z24q (by omega) (by omega)]; omega
  refine Ev.congr (f := fun k => nat_Add.l0 k a b (List.replicate (max a.length b.length + 1) 0) ((0 : Nat) : Int) ((max a.length b.length + 1 : Nat) : Int) ((0 : Nat) : Int)) (fun k => ?_) ?_
  · unfold nat_Add.f
    rw [hm, e1, if_pos (by omega), if_pos (by omega)]
    rw [show ((max a.length b.length + 1 : Nat) : Int).toNat = max a.length b.length + 1 from rfl, Option.bind_some, List.length_replicate]
    rfl
  refine ev_is (add_loop ha hb (max a.length b.length + 1) (by omega) (by omega) (by omega) (max a.length b.length + 1) 0 (List.replicate (max a.length b.length + 1) 0) 0 (by omega) (by simp) (W32_replicate _) (by omega) (fun h => rfl) ?_) ?_
  · intro h
    have : a = [] := List.length_eq_zero_iff.1 (by omega)
    have : b = [] := List.length_eq_zero_iff.1 (by omega)
    subst_vars
    simp
  · simp [V]
def cmpN (a b : Nat) : Int := if a < b then -1 else if b < a then 1 else 0
theorem V_lt_of_high {a b : List Int} (ha : W32 a) (hb : W32 b) (k : Nat) (hk : k < a.length) (hkb : k < b.length) (h : a.getD k 0 < b.getD k 0) : V (a.take (k + 1)) < V (b.take (k + 1)) := by
  rw [V_take a k hk, V_take b k hkb]
  have h1 := V_lt (W32_take ha k)
  rw [List.length_take, Nat.min_eq_left (by omega)] at h1
  have h3 := z34q ha k
  have h4 : (a.getD k 0).toNat + 1 ≤ (b.getD k 0).toNat := by omega
  have h5 := Nat.mul_le_mul_left (4294967296 ^ k) h4
  rw [Nat.mul_add] at h5
  omega
theorem cmpAt_eqN {a b : List Int} (ha : W32 a) (hb : W32 b) (k : Nat) : k ≤ a.length → k ≤ b.length → cmpAt a b k = cmpN (V (a.take k)) (V (b.take k)) := by
  induction k with
  | zero => intro _ _; simp [cmpAt, cmpN, V]
  | succ k ih =>
    intro h1 h2
    unfold cmpAt
    by_cases c1 : a.getD k 0 < b.getD k 0
    · rw [if_pos c1]
      unfold cmpN
      rw [if_pos (V_lt_of_high ha hb k (by omega) (by omega) c1)]
    · rw [if_neg c1]
      by_cases c2 : b.getD k 0 < a.getD k 0
      · rw [if_pos c2]
        unfold cmpN
        have := V_lt_of_high hb ha k (by omega) (by omega) c2
        rw [if_neg (by omega), if_pos this]
      · rw [if_neg c2, ih (by omega) (by omega), V_take a k (by omega), V_take b k (by omega)]
        have : a.getD k 0 = b.getD k 0 := by omega
        rw [this]
        unfold cmpN
        congr 1
        · simp
        · congr 1
          simp
theorem cmpW_dg (m n : Nat) : cmpW (dg m) (dg n) = cmpN m n := by
  unfold cmpW
  by_cases h1 : (dg m).length < (dg n).length
  · have : m < n := by
      rcases Nat.lt_or_ge m n with h | h
      · exact h
      · have := dg_length_mono h; omega
    rw [if_pos h1, cmpN, if_pos this]
  · rw [if_neg h1]
    by_cases h2 : (dg n).length < (dg m).length
    · have : n < m := by
        rcases Nat.lt_or_ge n m with h | h
        · exact h
        · have := dg_length_mono h; omega
      rw [if_pos h2, cmpN, if_neg (by omega), if_pos this]
    · rw [if_neg h2, cmpAt_eqN (W32_dg _) (W32_dg _) _ (Nat.le_refl _) (by omega), List.take_length, show (dg m).length = (dg n).length by omega, List.take_length, V_dg, V_dg]
theorem Compare_ev {a b : List Int} (ha : W32 a) (hb : W32 b) (hla : a.length ≤ 1099511627776) (hlb : b.length ≤ 1099511627776) : Ev (fun k => nat_Compare.f k a b) (cmpN (V a) (V b)) := by
  unfold nat_Compare.f
  exact Ev.bind (trim_ev ha (by omega)) (Ev.bind (trim_ev hb (by omega)) (ev_is (Ev.now _) (cmpW_dg _ _)))
theorem sub_loop {a b : List Int} (ha : W32 a) (hb : W32 b) (hN : a.length ≤ 1099511627776) (d : Nat) :
    ∀ (i : Nat) (x6 : List Int) (c : Nat), i + d = a.length → x6.length = a.length → W32 x6 → c ≤ 1 → c + V (b.drop i) ≤ V (a.drop i) →
    Ev (fun k => nat_Sub.l0 k a b x6 (c : Int) (a.length : Int) (i : Int)) (dg (V (x6.take i) + 4294967296 ^ i * (V (a.drop i) - V (b.drop i) - c)), true) := by
  induction d with
  | zero =>
    intro i x6 c hd hx hw hc hv
    obtain rfl : i = a.length := by omega
    refine Ev.step (f := fun k => (nat_trim.f k x6).bind fun t => some (t, true)) (fun k => ?_) (Ev.bind (trim_ev hw (by omega)) (ev_is (Ev.now _) ?_))
    · simp only [nat_Sub.l0]
      rw [if_neg (by omega)]
    · rw [List.drop_eq_nil_of_le (Nat.le_refl _), List.take_of_length_le (by omega)]
      simp [V]
  | succ d ih =>
    intro i x6 c hd hx hw hc hv
    have h1 := z34q ha i
    have h2 := z34q hb i
    obtain ⟨x, hx1⟩ : ∃ x : Nat, a.getD i 0 = x := ⟨(a.getD i 0).toNat, by omega⟩
    obtain ⟨y, hy1⟩ : ∃ y : Nat, b.getD i 0 = y := ⟨(b.getD i 0).toNat, by omega⟩
    rw [V_drop a i, V_drop b i, hx1, hy1] at hv
    simp only [Int.toNat_natCast] at hv
    rw [hx1] at h1
    rw [hy1] at h2
    obtain ⟨z, hz⟩ : ∃ z : Int, IntKind.u64.wrap (IntKind.u64.wrap (a.getD i 0 - b.getD i 0) - (c : Int)) = z := ⟨_, rfl⟩
    have hz2 : z = ((x : Int) - y - c) % 18446744073709551616 := by rw [← hz, hx1, hy1, wrap_u64, wrap_u64]; omega
    obtain ⟨c', hc'⟩ : ∃ c' : Nat, z / 9223372036854775808 = c' := ⟨(z / 9223372036854775808).toNat, by omega⟩
    have hcc : (z % 4294967296).toNat + y + c = x + 4294967296 * c' ∧ c' ≤ 1 := by omega
    have hz4 : 0 ≤ z % 4294967296 ∧ z % 4294967296 < 4294967296 := by omega
    obtain ⟨r, hr⟩ : ∃ r : Nat, z % 4294967296 = r := ⟨(z % 4294967296).toNat, by omega⟩
    rw [hr] at hcc hz4
    simp only [Int.toNat_natCast] at hcc
    have hv' : c' + V (b.drop (i + 1)) ≤ V (a.drop (i + 1)) := by omega
    refine Ev.step (f := fun k => nat_Sub.l0 k a b (x6.set i (z % 4294967296)) (c' : Int) (a.length : Int) ((i + 1 : Nat) : Int)) (fun k => ?_) (ev_is (ih (i + 1) (x6.set i (z % 4294967296)) c' (by omega) (by simpa using hx) (W32_set hw i (by omega) (by omega)) (by omega) hv') ?_)
    · simp only [nat_Sub.l0]
      rw [if_pos (by omega), at_eq ha, Option.bind_some, at_eq hb, Option.bind_some, if_pos (by omega), if_pos (by omega), hz, hc']
      rw [show wrap64 ((i : Int) + 1) = ((i + 1 : Nat) : Int) from by rw [z24q (by omega) (by omega)]; omega]
      rfl
    · congr 2
      rw [take_set_succ _ _ _ (by omega), V_append, List.length_take, Nat.min_eq_left (by omega), V_drop a i, V_drop b i, hx1, hy1, hr]
      simp only [V, Nat.pow_succ, Int.toNat_natCast]
      generalize V (a.drop (i + 1)) = A at *
      generalize V (b.drop (i + 1)) = B at *
      generalize 4294967296 ^ i = P
      generalize V (x6.take i) = T
      have e1 : x + 4294967296 * A - (y + 4294967296 * B) - c = r + 4294967296 * (A - B - c') := by omega
      rw [e1]
      grind
theorem Sub_ev {a b : List Int} (ha : W32 a) (hb : W32 b) (hla : a.length ≤ 1099511627776) (hlb : b.length ≤ 1099511627776) : Ev (fun k => nat_Sub.f k a b) (if V a < V b then ([], false) else (dg (V a - V b), true)) := by
  unfold nat_Sub.f
  refine Ev.bind (Compare_ev ha hb hla hlb) ?_
  by_cases h : V a < V b
  · rw [if_pos h, cmpN, if_pos h]
    exact Ev.now _
  · rw [if_neg h]
    have h0 : ¬ cmpN (V a) (V b) < 0 := by unfold cmpN; rw [if_neg h]; split <;> omega
    refine Ev.congr (f := fun k => nat_Sub.l0 k a b (List.replicate a.length 0) ((0 : Nat) : Int) (a.length : Int) ((0 : Nat) : Int)) (fun k => ?_) (ev_is (sub_loop ha hb hla a.length 0 (List.replicate a.length 0) 0 (by omega) (by simp) (W32_replicate _) (by omega) (by simp; omega)) (by simp [V]))
    rw [if_neg h0, if_pos (by omega), if_pos (by omega)]
    rw [show ((a.length : Int)).toNat = a.length from rfl, Option.bind_some, List.length_replicate]
    rfl
theorem wraps_u32 (n : Int) (h0 : 0 ≤ n) (h1 : n < 2 ^ 32) : IntKind.u32.wrap n = n := by rw [IntKind.wrap_u32]; omega
theorem or_u32 {x y : Nat} (hx : x < 2 ^ 32) (hy : y < 2 ^ 32) : Go.bits .or .u32 (x : Int) (y : Int) = ((x ||| y : Nat) : Int) := (bits_nat .u32 32 (by decide) wraps_u32 x y hx hy).2
theorem or_add {h l n : Nat} (hh : h < 2 ^ n) (hl : l % 2 ^ n = 0) : h ||| l = l + h := by
  have : l = 2 ^ n * (l / 2 ^ n) := by have := Nat.div_add_mod l (2 ^ n); omega
  rw [this, Nat.or_comm, ← Nat.two_pow_add_eq_or_of_lt hh]
theorem getD_set_ne (l : List Int) {i j : Nat} (v : Int) (h : i ≠ j) : (l.set i v).getD j 0 = l.getD j 0 := by simp [List.getD, h]
theorem getD_set_eq (l : List Int) {i : Nat} (v : Int) (h : i < l.length) : (l.set i v).getD i 0 = v := by simp [List.getD, h]
theorem shift_loop {a : List Int} (ha : W32 a) (hN : a.length ≤ 1099511627776) (n : Nat) (hn : n < 32) (d : Nat) :
    ∀ (i : Nat) (x5 : List Int) (h : Nat), i + d = a.length → x5.length = a.length + 1 → W32 x5 → x5.getD i 0 = h → h < 2 ^ n → (∀ j, i < j → x5.getD j 0 = 0) →
    Ev (fun k => nat_Shift.l0 k (n : Int) x5 a (a.length : Int) (i : Int)) (dg (V (x5.take i) + 4294967296 ^ i * (h + 2 ^ n * V (a.drop i)))) := by
  have t1 : (Int.tdiv (n : Int) 32) = 0 := by rw [Int.tdiv_eq_ediv_of_nonneg (by omega)]; omega
  have t2 : (Int.tmod (n : Int) 32) = n := by rw [Int.tmod_eq_emod_of_nonneg (by omega)]; omega
  have hp : 2 ^ n ≤ 2147483648 := by have := Nat.pow_le_pow_right (n := 2) (by omega) (show n ≤ 31 by omega); simpa using this
  have hp0 : 0 < 2 ^ n := Nat.pos_of_ne_zero (by simp)
  have hdvd : (2 ^ n) ∣ 4294967296 := by rw [show 4294967296 = 2 ^ 32 from rfl]; exact Nat.pow_dvd_pow 2 (by omega)
  induction d with
  | zero =>
    intro i x5 h hd hx hw hh hh2 hz
    obtain rfl : i = a.length := by omega
    refine Ev.step (f := fun k => (nat_trim.f k x5).bind fun t => some t) (fun k => ?_) (Ev.bind (trim_ev hw (by omega)) (ev_is (Ev.now _) ?_))
    · simp only [nat_Shift.l0]
      rw [if_neg (by omega)]
    · have := V_take x5 a.length (by omega)
      rw [← hx, List.take_length, hh] at this
      rw [this, List.drop_eq_nil_of_le (Nat.le_refl _)]
      simp [V]
  | succ d ih =>
    intro i x5 h hd hx hw hh hh2 hz
    have h1 := z34q ha i
    obtain ⟨x, hx1⟩ : ∃ x : Nat, a.getD i 0 = x := ⟨(a.getD i 0).toNat, by omega⟩
    rw [hx1] at h1
    have hy : x * 2 ^ n < 18446744073709551616 := by
      have : x * 2 ^ n ≤ 4294967295 * 2147483648 := Nat.mul_le_mul (by omega) hp
      omega
    have hs : shl .u64 (IntKind.u64.wrap (rd a (i : Int))) (n : Int) = ((x * 2 ^ n : Nat) : Int) := by
      unfold shl
      rw [rd_eq, hx1, z22q (n := (x : Int)) (by omega) (by omega), show min ((n : Int)).toNat IntKind.u64.bits = n from by simp [IntKind.bits]; omega]
      rw [show (2 : Int) ^ n = ((2 ^ n : Nat) : Int) from by simp, ← Int.natCast_mul, z22q (n := ((x * 2 ^ n : Nat) : Int)) (by omega) (by omega)]
    obtain ⟨y, hyy⟩ : ∃ y, y = x * 2 ^ n := ⟨_, rfl⟩
    rw [← hyy] at hy hs
    have hlo : (y % 4294967296) % 2 ^ n = 0 := by
      rw [Nat.mod_mod_of_dvd _ hdvd, hyy]; simp
    have hhi : y / 4294967296 < 2 ^ n := by
      rw [Nat.div_lt_iff_lt_mul (by omega), hyy, Nat.mul_comm]
      exact Nat.mul_lt_mul_of_pos_left (by omega) hp0
    have ho1 : Go.bits .or .u32 (rd x5 (i : Int)) ((y : Int) % 4294967296) = ((y % 4294967296 + h : Nat) : Int) := by
      rw [rd_eq, hh, show (y : Int) % 4294967296 = ((y % 4294967296 : Nat) : Int) from by omega, or_u32 (by omega) (by omega), or_add hh2 hlo]
    have hlt : y % 4294967296 + h < 4294967296 := by
      obtain ⟨q, hq⟩ := hdvd
      obtain ⟨m, hm⟩ := Nat.dvd_of_mod_eq_zero hlo
      rw [hm, hq]
      have : m < q := by
        have h2 : y % 4294967296 < 2 ^ n * q := by rw [← hq]; omega
        rw [hm] at h2
        exact Nat.lt_of_mul_lt_mul_left h2
      have h3 := Nat.mul_le_mul_left (2 ^ n) (show m + 1 ≤ q from this)
      rw [Nat.mul_add] at h3
      omega
    refine Ev.step (f := fun k => nat_Shift.l0 k (n : Int) ((x5.set i ((y % 4294967296 + h : Nat) : Int)).set (i + 1) ((y / 4294967296 : Nat) : Int)) a (a.length : Int) ((i + 1 : Nat) : Int)) (fun k => ?_) (ev_is (ih (i + 1) ((x5.set i ((y % 4294967296 + h : Nat) : Int)).set (i + 1) ((y / 4294967296 : Nat) : Int)) (y / 4294967296) (by omega) (by simpa using hx) (W32_set (W32_set hw i (by omega) (by omega)) (i + 1) (by omega) (by omega)) (getD_set_eq _ _ (by simp; omega)) hhi ?_) ?_)
    · simp only [nat_Shift.l0]
      rw [t1, t2, z24q (x := 0) (by omega) (by omega), Int.add_zero, z24q (x := (i : Int)) (by omega) (by omega), z24q (x := (i : Int) + 1) (by omega) (by omega)]
      rw [if_pos (by omega), if_pos (by omega), if_pos (by omega), if_pos (by omega), if_pos (by omega), if_pos (by omega), Option.bind_some, if_pos (by omega), if_pos (by omega), hs, ho1]
      rw [show ((i : Int) + 1).toNat = i + 1 from by omega, show ((i : Int)).toNat = i from rfl]
      rw [show (i : Int) + 1 = ((i + 1 : Nat) : Int) from rfl, rd_eq, getD_set_ne _ _ (by omega), hz (i + 1) (by omega)]
      rw [show (y : Int) / 4294967296 % 4294967296 = ((y / 4294967296 : Nat) : Int) from by omega]
      rw [show (0 : Int) = ((0 : Nat) : Int) from rfl, or_u32 (by omega) (by omega), Nat.zero_or]
    · intro j hj
      rw [getD_set_ne _ _ (by omega), getD_set_ne _ _ (by omega)]
      exact hz j (by omega)
    · congr 1
      rw [List.take_set_of_le (Nat.le_refl _), take_set_succ _ _ _ (by omega), V_append, List.length_take, Nat.min_eq_left (by omega), V_drop a i, hx1]
      simp only [V, Nat.pow_succ, Int.toNat_natCast]
      have e4 := Nat.mod_add_div y 4294967296
      generalize y % 4294967296 = r at *
      generalize y / 4294967296 = q at *
      generalize V (a.drop (i + 1)) = A
      generalize 4294967296 ^ i = P
      generalize V (x5.take i) = T
      generalize 2 ^ n = D at *
      have : r + 4294967296 * q = x * D := by rw [e4, hyy]
      grind
theorem Shift_ev {a : List Int} (ha : W32 a) (hN : a.length ≤ 1099511627776) (n : Nat) (hn : n < 32) : Ev (fun k => nat_Shift.f k a (n : Int)) (dg (2 ^ n * V a)) := by
  have t1 : (Int.tdiv (n : Int) 32) = 0 := by rw [Int.tdiv_eq_ediv_of_nonneg (by omega)]; omega
  have e0 : decide ((n : Int) > 65536) = false := by simp; omega
  refine Ev.congr (f := fun k => nat_Shift.j0 k a (n : Int) false) (fun k => ?_) (Ev.step (f := fun k => nat_Shift.l0 k (n : Int) (List.replicate (a.length + 1) 0) a (a.length : Int) ((0 : Nat) : Int)) (fun k => ?_) (ev_is (shift_loop ha hN n hn a.length 0 (List.replicate (a.length + 1) 0) 0 (by omega) (by simp) (W32_replicate _) (by simp [List.getD]) (Nat.pos_of_ne_zero (by simp)) ?_) (by simp [V])))
  · unfold nat_Shift.f
    rw [if_neg (by omega), e0]
  · simp only [nat_Shift.j0]
    rw [if_neg (by simp), t1, z24q (x := 0) (by omega) (by omega), Int.add_zero, z24q (x := (a.length : Int)) (by omega) (by omega), z24q (x := (a.length : Int) + 1) (by omega) (by omega), if_pos (by omega), if_pos (by omega)]
    rfl
  · intro j _
    simp [List.getD, List.getElem?_replicate]
    split <;> rfl
theorem dg_len_le {n m : Nat} (h : n < 4294967296 ^ m) : (dg n).length ≤ m := z19q.2 h
theorem digit_loop {b : List Int} (hb : W32 b) (hN : b.length ≤ 549755813888) (m : Nat) :
    ∀ (A q : Nat), m ≤ 32 → A < 2 ^ m * V b → q < 2 ^ 32 → q % 2 ^ m = 0 →
    Ev (fun k => nat_digit.l0 k (dg A) b (q : Int) ((m : Int) - 1)) (((q + A / V b : Nat) : Int), dg (A % V b)) := by
  induction m with
  | zero =>
    intro A q hm hA hq hq0
    refine Ev.step (f := fun _ => some ((q : Int), dg A)) (fun k => ?_) (ev_is (Ev.now _) ?_)
    · simp only [nat_digit.l0]
      rw [if_neg (by omega)]
    · have h : A < V b := by simpa using hA
      rw [Nat.div_eq_of_lt h, Nat.mod_eq_of_lt h, Nat.add_zero]
  | succ m ih =>
    intro A q hm hA hq hq0
    have hp0 : 0 < 2 ^ m := Nat.pos_of_ne_zero (by simp)
    have hB : 0 < V b := by
      rcases Nat.eq_zero_or_pos (V b) with h | h
      · rw [h] at hA; omega
      · exact h
    have hlb := V_lt hb
    have hpm : 2 ^ m ≤ 2147483648 := by have := Nat.pow_le_pow_right (n := 2) (by omega) (show m ≤ 31 by omega); simpa using this
    have hl1 : (dg (2 ^ m * V b)).length ≤ 1099511627776 := by
      refine Nat.le_trans (dg_len_le (m := b.length + 1) ?_) (by omega)
      rw [Nat.pow_succ, Nat.mul_comm]
      exact Nat.mul_lt_mul_of_lt_of_le hlb (by omega) (by omega)
    have hl2 : (dg A).length ≤ 1099511627776 := by
      refine Nat.le_trans (dg_len_le (m := b.length + 1) ?_) (by omega)
      rw [Nat.pow_succ]
      refine Nat.lt_trans hA ?_
      rw [Nat.mul_comm]
      exact Nat.mul_lt_mul_of_lt_of_le hlb (by rw [Nat.pow_succ]; omega) (by omega)
    have hk : ((m + 1 : Nat) : Int) - 1 = (m : Int) := by omega
    have hq1 : q % 2 ^ m = 0 := by
      have h1 := Nat.mod_mod_of_dvd q (Nat.pow_dvd_pow 2 (show m ≤ m + 1 by omega))
      rw [hq0, Nat.zero_mod] at h1
      exact h1.symm
    by_cases hlt : A < 2 ^ m * V b
    · refine Ev.step (f := fun k => (nat_Shift.f k b (m : Int)).bind fun t => (nat_Sub.f k (dg A) t).bind fun bt => if bt.2 = true then (if 0 ≤ (m : Int) then (nat_digit.l0 k bt.1 b (Go.bits .or .u32 (q : Int) (shl .u32 1 (m : Int))) (wrap64 ((m : Int) - 1))) else none) else nat_digit.l0 k (dg A) b (q : Int) (wrap64 ((m : Int) - 1))) (fun k => ?_)
        (Ev.bind (Shift_ev hb (by omega) m (by omega)) (Ev.bind (Sub_ev (W32_dg _) (W32_dg _) hl2 hl1) ?_))
      · simp only [nat_digit.l0]
        rw [if_pos (by omega), hk]
      · rw [V_dg, V_dg, if_pos hlt]
        simp only [Bool.false_eq_true, if_false]
        rw [z24q (by omega) (by omega)]
        exact ih A q (by omega) hlt hq hq1
    · refine Ev.step (f := fun k => (nat_Shift.f k b (m : Int)).bind fun t => (nat_Sub.f k (dg A) t).bind fun bt => if bt.2 = true then (if 0 ≤ (m : Int) then (nat_digit.l0 k bt.1 b (Go.bits .or .u32 (q : Int) (shl .u32 1 (m : Int))) (wrap64 ((m : Int) - 1))) else none) else nat_digit.l0 k (dg A) b (q : Int) (wrap64 ((m : Int) - 1))) (fun k => ?_)
        (Ev.bind (Shift_ev hb (by omega) m (by omega)) (Ev.bind (Sub_ev (W32_dg _) (W32_dg _) hl2 hl1) ?_))
      · simp only [nat_digit.l0]
        rw [if_pos (by omega), hk]
      · rw [V_dg, V_dg, if_neg hlt]
        simp only [if_true]
        have hs : shl .u32 1 (m : Int) = ((2 ^ m : Nat) : Int) := by
          unfold shl
          rw [show min ((m : Int)).toNat IntKind.u32.bits = m from by simp [IntKind.bits]; omega]
          rw [show (1 : Int) * 2 ^ m = ((2 ^ m : Nat) : Int) from by simp, wraps_u32 _ (by omega) (by omega)]
        have hq2 : q + 2 ^ m < 2 ^ 32 := by
          obtain ⟨c, hc⟩ := Nat.dvd_of_mod_eq_zero hq0
          have hd : 2 ^ (m + 1) * 2 ^ (31 - m) = 2 ^ 32 := by rw [← Nat.pow_add]; congr 1; omega
          have h1 : c < 2 ^ (31 - m) := by
            rw [hc, ← hd] at hq
            exact Nat.lt_of_mul_lt_mul_left hq
          have h2 := Nat.mul_le_mul_left (2 ^ (m + 1)) (show c + 1 ≤ 2 ^ (31 - m) from h1)
          rw [hd, Nat.mul_add, ← hc] at h2
          have : 2 ^ m < 2 ^ (m + 1) := by rw [Nat.pow_succ]; omega
          omega
        have hor : Go.bits .or .u32 (q : Int) (shl .u32 1 (m : Int)) = ((q + 2 ^ m : Nat) : Int) := by
          rw [hs, or_u32 hq (by omega), Nat.or_comm, or_add (n := m + 1) (by rw [Nat.pow_succ]; omega) hq0]
        have hw : wrap64 ((m : Int) - 1) = (m : Int) - 1 := z24q (by omega) (by omega)
        have h0 : (0 : Int) ≤ (m : Int) := by omega
        simp only [if_pos h0, hw, hor]
        have hge : 2 ^ m * V b ≤ A := by omega
        refine ev_is (ih (A - 2 ^ m * V b) (q + 2 ^ m) (by omega) (by rw [Nat.pow_succ] at hA; grind) hq2 (by rw [Nat.add_mod, hq1]; simp)) ?_
        obtain ⟨D, hD⟩ : ∃ D, A = D + 2 ^ m * V b := ⟨A - 2 ^ m * V b, by omega⟩
        subst hD
        rw [Nat.add_sub_cancel, Nat.add_mul_div_right _ _ hB, Nat.add_mul_mod_self_right]
        congr 2
        omega
theorem digit_ev {b : List Int} (hb : W32 b) (hN : b.length ≤ 549755813888) (A : Nat) (hA : A < 4294967296 * V b) : Ev (fun k => nat_digit.f k (dg A) b) (((A / V b : Nat) : Int), dg (A % V b)) := by
  unfold nat_digit.f
  exact ev_is (digit_loop hb hN 32 A 0 (by omega) hA (by omega) (by omega)) (by simp)
theorem or_u64 {x y : Nat} (hx : x < 2 ^ 64) (hy : y < 2 ^ 64) : Go.bits .or .u64 (x : Int) (y : Int) = ((x ||| y : Nat) : Int) := (bits_nat .u64 64 (by decide) (fun n h0 h1 => z22q h0 (by omega)) x y hx hy).2
theorem bwd1 : bwd 1 1 = [0] := by decide
theorem bwd2 : bwd 2 2 = [1, 0] := by decide
theorem Small_ev {l : List Int} (hw : W32 l) (hl : l.length ≤ 1099511627776) : Ev (fun k => nat_Small.f k l) (if V l < 18446744073709551616 then ((V l : Nat), true) else (0, false)) := by
  unfold nat_Small.f
  refine Ev.bind (trim_ev hw (by omega)) ?_
  by_cases h : V l < 18446744073709551616
  · have h2 : (dg (V l)).length ≤ 2 := dg_len_le h
    rw [if_neg (by omega), if_pos h]
    refine ev_is (Ev.now _) ?_
    congr 1
    rcases Nat.eq_zero_or_pos (V l) with h0 | h0
    · rw [h0]; rfl
    · have e := dg_pos h0
      rcases Nat.eq_zero_or_pos (V l / 4294967296) with h1 | h1
      · rw [h1, dg_zero] at e
        rw [e]
        show smallW [((V l % 4294967296 : Nat) : Int)] (bwd 1 1) = _
        rw [bwd1]
        show Go.bits .or .u64 (IntKind.u64.wrap (0 * 4294967296)) (IntKind.u64.wrap ((V l % 4294967296 : Nat) : Int)) = _
        rw [z22q (by omega) (by omega), z22q (by omega) (by omega), show (0 : Int) * 4294967296 = ((0 : Nat) : Int) from rfl, or_u64 (by omega) (by omega), Nat.zero_or]
        congr 1
        omega
      · have e2 := dg_pos h1
        rw [show V l / 4294967296 / 4294967296 = 0 by omega, dg_zero] at e2
        rw [e2] at e
        rw [e]
        show smallW [((V l % 4294967296 : Nat) : Int), ((V l / 4294967296 % 4294967296 : Nat) : Int)] (bwd 2 2) = _
        rw [bwd2]
        show Go.bits .or .u64 (IntKind.u64.wrap (Go.bits .or .u64 (IntKind.u64.wrap (0 * 4294967296)) (IntKind.u64.wrap ((V l / 4294967296 % 4294967296 : Nat) : Int)) * 4294967296)) (IntKind.u64.wrap ((V l % 4294967296 : Nat) : Int)) = _
        rw [z22q (n := (0 : Int) * 4294967296) (by omega) (by omega), z22q (n := ((V l / 4294967296 % 4294967296 : Nat) : Int)) (by omega) (by omega), show (0 : Int) * 4294967296 = ((0 : Nat) : Int) from rfl, or_u64 (by omega) (by omega), Nat.zero_or]
        rw [show ((V l / 4294967296 % 4294967296 : Nat) : Int) * 4294967296 = ((V l / 4294967296 % 4294967296 * 4294967296 : Nat) : Int) from by omega, z22q (by omega) (by omega), z22q (by omega) (by omega), or_u64 (by omega) (by omega), Nat.or_comm, or_add (n := 32) (by omega) (by omega)]
        congr 1
        omega
  · have h2 : ¬ (dg (V l)).length ≤ 2 := fun h2 => h (z19q.1 h2)
    rw [if_pos (by omega), if_neg h]
    exact Ev.now _
theorem getD_of_V_lt {l : List Int} (hw : W32 l) {n : Nat} (h : V l < 4294967296 ^ n) : l.getD n 0 = 0 := by
  rcases Nat.lt_or_ge n l.length with hn | hn
  · have h1 := V_split l n
    rw [List.length_take, Nat.min_eq_left (by omega), V_drop] at h1
    have h2 := z34q hw n
    rcases Nat.eq_zero_or_pos (l.getD n 0).toNat with h3 | h3
    · omega
    · have h4 : 4294967296 ^ n * 1 ≤ 4294967296 ^ n * ((l.getD n 0).toNat + 4294967296 * V (l.drop (n + 1))) := Nat.mul_le_mul_left _ (by omega)
      omega
  · simp [List.getD, hn]
theorem mul_inner {a b : List Int} (hb : W32 b) (hla : a.length ≤ 1099511627776) (hlb : b.length ≤ 1099511627776) (i x : Nat) (hi : i < a.length) (hx : x < 4294967296)
    (ho : ∀ (out : List Int), out.length = a.length + b.length → W32 out → V out < 4294967296 ^ (i + 1 + b.length) → Ev (fun k => nat_Mul.l0 k b out a (a.length : Int) ((i + 1 : Nat) : Int)) (dg (V out + 4294967296 ^ (i + 1) * V (a.drop (i + 1)) * V b))) (d : Nat) :
    ∀ (j : Nat) (out : List Int) (c : Nat), j + d = b.length → out.length = a.length + b.length → W32 out → c < 4294967296 → out.getD (i + b.length) 0 = 0 → V out + 4294967296 ^ (i + j) * (c + x * V (b.drop j)) < 4294967296 ^ (i + 1 + b.length) →
    Ev (fun k => nat_Mul.l1 k b out (i : Int) (x : Int) (c : Int) a (a.length : Int) (i : Int) b (b.length : Int) (j : Int)) (dg (V out + 4294967296 ^ (i + j) * (c + x * V (b.drop j)) + 4294967296 ^ (i + 1) * V (a.drop (i + 1)) * V b)) := by
  induction d with
  | zero =>
    intro j out c hd hl hw hc h0 hv
    obtain rfl : j = b.length := by omega
    have hset := V_set out (i + b.length) ((c : Nat) : Int) (by omega)
    rw [h0] at hset
    simp only [Int.toNat_natCast, Int.toNat_zero, Nat.zero_mul, Nat.add_zero] at hset
    rw [List.drop_eq_nil_of_le (Nat.le_refl _)] at hv ⊢
    simp only [V, Nat.mul_zero, Nat.add_zero] at hv ⊢
    refine Ev.step (f := fun k => nat_Mul.l0 k b (out.set (i + b.length) ((c : Nat) : Int)) a (a.length : Int) ((i + 1 : Nat) : Int)) (fun k => ?_) (ev_is (ho _ (by simpa using hl) (W32_set hw _ (by omega) (by omega)) ?_) ?_)
    · simp only [nat_Mul.l1]
      rw [if_neg (by omega), z24q (x := (i : Int) + (b.length : Int)) (by omega) (by omega), z24q (x := (i : Int) + 1) (by omega) (by omega), if_pos (by omega), if_pos (by omega)]
      rw [show (c : Int) % 4294967296 = c from by omega]
      rfl
    · rw [hset, Nat.mul_comm]; exact hv
    · rw [hset, Nat.mul_comm c]
  | succ d ih =>
    intro j out c hd hl hw hc h0 hv
    have h1 := z34q hb j
    have h2 := z34q hw (i + j)
    obtain ⟨y, hy⟩ : ∃ y : Nat, b.getD j 0 = y := ⟨(b.getD j 0).toNat, by omega⟩
    obtain ⟨o, hoo⟩ : ∃ o : Nat, out.getD (i + j) 0 = o := ⟨(out.getD (i + j) 0).toNat, by omega⟩
    rw [hy] at h1
    rw [hoo] at h2
    have hxy : x * y ≤ 4294967295 * 4294967295 := Nat.mul_le_mul (by omega) (by omega)
    obtain ⟨s, hs⟩ : ∃ s : Nat, s = c + (x * y + o) := ⟨_, rfl⟩
    have hs1 : IntKind.u64.wrap ((c : Int) + IntKind.u64.wrap (IntKind.u64.wrap (IntKind.u64.wrap (x : Int) * IntKind.u64.wrap (rd b (j : Int))) + IntKind.u64.wrap (rd out ((i + j : Nat) : Int)))) = (s : Int) := by
      rw [rd_eq, rd_eq, hy, hoo, z22q (n := (x : Int)) (by omega) (by omega), z22q (n := (y : Int)) (by omega) (by omega), z22q (n := (o : Int)) (by omega) (by omega), ← Int.natCast_mul,
        z22q (n := ((x * y : Nat) : Int)) (by omega) (by omega), z22q (n := ((x * y : Nat) : Int) + (o : Int)) (by omega) (by omega), z22q (by omega) (by omega)]
      omega
    have hset := V_set out (i + j) ((s % 4294967296 : Nat) : Int) (by omega)
    rw [hoo] at hset
    simp only [Int.toNat_natCast] at hset
    have e4 := Nat.mod_add_div s 4294967296
    have hkey : V (out.set (i + j) ((s % 4294967296 : Nat) : Int)) + 4294967296 ^ (i + (j + 1)) * (s / 4294967296 + x * V (b.drop (j + 1))) = V out + 4294967296 ^ (i + j) * (c + x * V (b.drop j)) := by
      rw [V_drop b j, hy, ← Nat.add_assoc, Nat.pow_succ, Int.toNat_natCast]
      generalize V (out.set (i + j) ((s % 4294967296 : Nat) : Int)) = T' at *
      generalize s % 4294967296 = r at *
      generalize s / 4294967296 = q at *
      generalize 4294967296 ^ (i + j) = P at *
      generalize V (b.drop (j + 1)) = D
      have : r + 4294967296 * q = c + (x * y + o) := by rw [e4, hs]
      grind
    refine Ev.step (f := fun k => nat_Mul.l1 k b (out.set (i + j) ((s % 4294967296 : Nat) : Int)) (i : Int) (x : Int) ((s / 4294967296 : Nat) : Int) a (a.length : Int) (i : Int) b (b.length : Int) ((j + 1 : Nat) : Int)) (fun k => ?_) (ev_is (ih (j + 1) (out.set (i + j) ((s % 4294967296 : Nat) : Int)) (s / 4294967296) (by omega) (by simpa using hl) (W32_set hw _ (by omega) (by omega)) (by omega) (by rw [getD_set_ne _ _ (by omega)]; exact h0) (by rw [hkey]; exact hv)) (by rw [hkey]))
    simp only [nat_Mul.l1]
    rw [if_pos (by omega), if_pos (by omega), if_pos (by omega), z24q (x := (i : Int) + (j : Int)) (by omega) (by omega), if_pos (by omega), if_pos (by omega), z24q (x := (j : Int) + 1) (by omega) (by omega)]
    rw [show (i : Int) + (j : Int) = ((i + j : Nat) : Int) from by omega, hs1]
    rw [show (s : Int) % 4294967296 = ((s % 4294967296 : Nat) : Int) from by omega, show (s : Int) / 4294967296 = ((s / 4294967296 : Nat) : Int) from by omega]
    rfl
theorem mul_outer {a b : List Int} (ha : W32 a) (hb : W32 b) (hla : a.length ≤ 1099511627776) (hlb : b.length ≤ 1099511627776) (d : Nat) :
    ∀ (i : Nat) (out : List Int), i + d = a.length → out.length = a.length + b.length → W32 out → V out < 4294967296 ^ (i + b.length) →
    Ev (fun k => nat_Mul.l0 k b out a (a.length : Int) (i : Int)) (dg (V out + 4294967296 ^ i * V (a.drop i) * V b)) := by
  induction d with
  | zero =>
    intro i out hd hl hw hv
    obtain rfl : i = a.length := by omega
    refine Ev.step (f := fun k => (nat_trim.f k out).bind fun t => some t) (fun k => ?_) (Ev.bind (trim_ev hw (by omega)) (ev_is (Ev.now _) ?_))
    · simp only [nat_Mul.l0]
      rw [if_neg (by omega)]
    · rw [List.drop_eq_nil_of_le (Nat.le_refl _)]
      simp [V]
  | succ d ih =>
    intro i out hd hl hw hv
    have h1 := z34q ha i
    obtain ⟨x, hx⟩ : ∃ x : Nat, a.getD i 0 = x := ⟨(a.getD i 0).toNat, by omega⟩
    rw [hx] at h1
    have hb1 := V_lt hb
    have hbnd : V out + 4294967296 ^ (i + 0) * (0 + x * V (b.drop 0)) < 4294967296 ^ (i + 1 + b.length) := by
      rw [Nat.add_zero, List.drop_zero, Nat.zero_add, show i + 1 + b.length = (i + b.length) + 1 by omega, Nat.pow_succ]
      rw [Nat.pow_add] at hv ⊢
      have h3 : x * V b ≤ 4294967295 * 4294967296 ^ b.length := Nat.mul_le_mul (by omega) (by omega)
      have h4 := Nat.mul_le_mul_left (4294967296 ^ i) h3
      generalize 4294967296 ^ i * (x * V b) = M at *
      have : 4294967296 ^ i * (4294967295 * 4294967296 ^ b.length) = 4294967295 * (4294967296 ^ i * 4294967296 ^ b.length) := by grind
      omega
    refine Ev.step (f := fun k => nat_Mul.l1 k b out (i : Int) (x : Int) ((0 : Nat) : Int) a (a.length : Int) (i : Int) b (b.length : Int) ((0 : Nat) : Int)) (fun k => ?_) (ev_is (mul_inner hb hla hlb i x (by omega) (by omega) (fun out' h5 h6 h7 => ih (i + 1) out' (by omega) h5 h6 h7) b.length 0 out 0 (by omega) hl hw (by omega) (getD_of_V_lt hw hv) hbnd) ?_)
    · simp only [nat_Mul.l0]
      rw [if_pos (by omega), if_pos (by omega), if_pos (by omega), rd_eq, hx]
      rfl
    · congr 1
      rw [V_drop a i, hx, Nat.add_zero, List.drop_zero, Nat.pow_succ, Int.toNat_natCast]
      grind
theorem Mul_ev {a b : List Int} (ha : W32 a) (hb : W32 b) (hla : a.length ≤ 1099511627776) (hlb : b.length ≤ 1099511627776) : Ev (fun k => nat_Mul.f k a b) (dg (V a * V b)) := by
  refine Ev.congr (f := fun k => nat_Mul.l0 k b (List.replicate (a.length + b.length) 0) a (a.length : Int) ((0 : Nat) : Int)) (fun k => ?_) (ev_is (mul_outer ha hb hla hlb a.length 0 (List.replicate (a.length + b.length) 0) (by omega) (by simp) (W32_replicate _) (by rw [V_replicate]; exact Nat.pos_of_ne_zero (by simp))) (by rw [V_replicate]; simp))
  unfold nat_Mul.f
  rw [z24q (x := (a.length : Int) + (b.length : Int)) (by omega) (by omega), if_pos (by omega), if_pos (by omega)]
  rw [show ((a.length : Int) + (b.length : Int)).toNat = a.length + b.length from by omega]
  rfl
section
attribute [local go_sem] Oper.semAt_some
def W32b (l : List Int) : Bool := l.all fun x => decide (0 ≤ x) && decide (x < 4294967296)
theorem W32b_iff {l : List Int} : W32b l = true ↔ W32 l := by simp [W32b, W32]
def nat_DivMod.f (l0 l1 : List Int) : Option (List Int × List Int × Int) :=
  if W32b l0 = true ∧ W32b l1 = true ∧ l0.length ≤ 274877906944 ∧ l1.length ≤ 274877906944 then (if V l1 = 0 then some ([], [], 5) else some (dg (V l0 / V l1), dg (V l0 % V l1), 0)) else none
theorem boxed_below {W W' : World} {B : Nat} {t : TypeId} {v : Value} (h : Boxed W B t v) (hb : Below W.heap.size W W') : Boxed W' B t v := z09q h hb
structure DM (w : World) (h ho hr : Nat) (Ab : Option Addr) (cb co n : Nat) (b out rest : List Int) (Ar : Option Addr) (cr : Nat) (U : World) : Prop where
  hh : w.heap.size < h ∧ h < ho ∧ ho < hr
  sz : hr < U.heap.size
  bx : Boxed U w.heap.size 35 (.slice Ab b.length cb)
  ox : Boxed U ho 35 (.slice (some ⟨h, 0, none⟩) n co)
  rx : Boxed U hr 35 (.slice Ar rest.length cr)
  bR : Kd.R (Kd.int .u32) 96 U (w.heap.size + 1) (fun k => k ≠ h) (.slice Ab b.length cb) b
  oR : Kd.R (Kd.int .u32) 96 U (w.heap.size + 1) (fun k => k = h) (.slice (some ⟨h, 0, none⟩) n co) out
  rR : Kd.R (Kd.int .u32) 96 U (w.heap.size + 1) (fun k => k ≠ h) (.slice Ar rest.length cr) rest
  bel : Below w.heap.size w U
section
variable {w U U' : World} {h ho hr : Nat} {Ab : Option Addr} {cb co n : Nat} {b out rest : List Int} {Ar : Option Addr} {cr : Nat}
theorem DM.below (d : DM w h ho hr Ab cb co n b out rest Ar cr U) (hb : Below U.heap.size U U') : DM w h ho hr Ab cb co n b out rest Ar cr U' where
  hh := d.hh
  sz := Nat.lt_of_lt_of_le d.sz hb.size
  bx := z09q d.bx hb
  ox := z09q d.ox hb
  rx := z09q d.rx hb
  bR := Kd.R_below d.bR hb
  oR := Kd.R_below d.oR hb
  rR := Kd.R_below d.rR hb
  bel := d.bel.trans (hb.mono d.bel.size)
theorem DM.setRest (d : DM w h ho hr Ab cb co n b out rest Ar cr U) {A : Option Addr} {c : Nat} {r : List Int} {base : Nat} {ok : Nat → Prop} (hr' : Kd.R (Kd.int .u32) 96 U base ok (.slice A r.length c) r) (hok : ∀ k, ok k → base ≤ k → k < U.heap.size → k ≠ h) (hbase : w.heap.size + 1 ≤ base) :
    DM w h ho hr Ab cb co n b out r A c (U.setCell ⟨hr, 0, none⟩ (.slice A r.length c)) where
  hh := d.hh
  sz := by rw [World.size_setCell]; exact d.sz
  bx := d.bx.other (by have := d.hh; omega) _
  ox := d.ox.other (by have := d.hh; omega) _
  rx := d.rx.set _
  bR := Kd.R_set d.bR d.rx (by intro q hq; simp [Kd.int, Kd.scalar] at hq; omega) _ _
  oR := Kd.R_set d.oR d.rx (by intro q hq; simp [Kd.int, Kd.scalar] at hq; omega) _ _
  rR := Kd.R_set (Kd.R_lower (Kd.R_mono (Kd.R_bound hr') (fun k hk => hok k hk.1 hk.2.1 hk.2.2.1)) hbase) d.rx (by intro q hq; simp [Kd.int, Kd.scalar] at hq; omega) _ _
  bel := d.bel.setCell (p := ⟨hr, 0, none⟩) (by have := d.hh; simp; omega) _
theorem DM.setOut (d : DM w h ho hr Ab cb co n b out rest Ar cr U) (i : Nat) (v : Int) :
    DM w h ho hr Ab cb co n b (out.set i v) rest Ar cr (U.setCell ⟨h, i, none⟩ (.int .u32 v)) where
  hh := d.hh
  sz := by rw [World.size_setCell]; exact d.sz
  bx := (Below.heap_setCell _ _ _ _ (by have := d.hh; simp; omega)).trans d.bx
  ox := (Below.heap_setCell _ _ _ _ (by have := d.hh; simp; omega)).trans d.ox
  rx := (Below.heap_setCell _ _ _ _ (by have := d.hh; simp; omega)).trans d.rx
  bR := Kd.R_far d.bR (fun k hk => hk) _
  oR := Kd.R_putn d.oR (i : Int) v
  rR := Kd.R_far d.rR (fun k hk => hk) _
  bel := d.bel.setCell (p := ⟨h, i, none⟩) (by have := d.hh; simp; omega) _
theorem R_keptB {α : Type} {d : Kd α} {e : Nat} {W W' : World} {base : Nat} {ok : Nat → Prop} {v : Value} {xs : List α} {row : Option Nat} (hR : Kd.R d e W base ok v xs) (hg : W.grownBy W' row) (hrow : ∀ r, row = some r → ∃ o : Obj, W.heap[r]? = some o ∧ o.isCells = false) : Kd.R d e W' base ok v xs :=
  Kd.R_mono (Kd.R_grown (Kd.R_bound hR) hg (fun k hk e' => by
    obtain ⟨_, _, _, q, _, cells, hc⟩ := hk
    obtain ⟨o, ho, hno⟩ := hrow k e'.symm
    rw [hc] at ho
    cases ho
    cases hno)) (fun k hk => hk.1)
theorem Boxed.keptB {W W' : World} {B : Nat} {t : TypeId} {v : Value} {row : Option Nat} (hb : Boxed W B t v) (hg : W.grownBy W' row) (hrow : ∀ r, row = some r → ∃ o : Obj, W.heap[r]? = some o ∧ o.isCells = false) : Boxed W' B t v :=
  hb.kept hg (fun e' => by obtain ⟨o, ho, hc⟩ := hrow B e'.symm; rw [show W.heap[B]? = _ from hb] at ho; cases ho; cases hc)
theorem DM.kept {row : Option Nat} (d : DM w h ho hr Ab cb co n b out rest Ar cr U) (hg : U.grownBy U' row) (hrow : ∀ r, row = some r → w.heap.size ≤ r ∧ ∃ o : Obj, U.heap[r]? = some o ∧ o.isCells = false) : DM w h ho hr Ab cb co n b out rest Ar cr U' where
  hh := d.hh
  sz := Nat.lt_of_lt_of_le d.sz hg.size
  bx := Boxed.keptB d.bx hg (fun r e => (hrow r e).2)
  ox := Boxed.keptB d.ox hg (fun r e => (hrow r e).2)
  rx := Boxed.keptB d.rx hg (fun r e => (hrow r e).2)
  bR := R_keptB d.bR hg (fun r e => (hrow r e).2)
  oR := R_keptB d.oR hg (fun r e => (hrow r e).2)
  rR := R_keptB d.rR hg (fun r e => (hrow r e).2)
  bel := d.bel.grown hg d.bel.size (fun k e => (hrow k e).1)
structure DQ (s t : List Int) (pre : List (Fin s.length)) (out rest : List Int) : Prop where
  len : out.length = s.length
  wo : W32 out
  re : rest = dg (V rest)
  lt : V rest < V t
  eq : ∀ i, i ≤ s.length → pre = bwd s.length i → V (s.drop (s.length - i)) = V (out.drop (s.length - i)) * V t + V rest
theorem DQ.start {s t : List Int} (ht : 0 < V t) : DQ s t [] (List.replicate s.length 0) [] where
  len := by simp
  wo := W32_replicate _
  re := rfl
  lt := ht
  eq := fun i hi h => by
    have := congrArg List.length h
    rw [bwd_length _ _ hi] at this
    obtain rfl : i = 0 := this.symm
    simp [V]
theorem DQ.step {s t : List Int} {pre : List (Fin s.length)} {out rest : List Int} (d : DQ s t pre out rest) (hs : W32 s) (x : Fin s.length) :
    (elt s x).toNat + 4294967296 * V rest < 4294967296 * V t ∧ V (elt s x :: rest) = (elt s x).toNat + 4294967296 * V rest ∧
    DQ s t (pre ++ [x]) (out.set x.1 (((V (elt s x :: rest) / V t : Nat)) : Int)) (dg (V (elt s x :: rest) % V t)) := by
  have hx : 0 ≤ elt s x ∧ elt s x < 4294967296 := z34q hs x.1
  have hlt := d.lt
  have h1 : (elt s x).toNat + 4294967296 * V rest < 4294967296 * V t := by omega
  have h2 : V (elt s x :: rest) = (elt s x).toNat + 4294967296 * V rest := rfl
  have h3 : V (elt s x :: rest) / V t < 4294967296 := by
    rw [Nat.div_lt_iff_lt_mul (by omega), h2]
    exact h1
  refine ⟨h1, h2, ⟨by simpa using d.len, W32_set d.wo _ (Int.natCast_nonneg _) (Int.ofNat_lt.mpr h3), by rw [V_dg], by rw [V_dg]; exact Nat.mod_lt _ (by omega), fun i' hi' he => ?_⟩⟩
  obtain ⟨i, rfl⟩ : ∃ i, i' = i + 1 := by
    cases i' with
    | zero => simp [bwd] at he
    | succ i => exact ⟨i, rfl⟩
  rw [bwd_succ s.length i (s.length - 1 - i) (by omega) (by omega)] at he
  obtain ⟨he1, he2⟩ := List.append_inj' he rfl
  have hxv : x.1 = s.length - 1 - i := by
    have : x = ⟨s.length - 1 - i, by omega⟩ := by simpa using he2
    rw [this]
  have heq := d.eq i (by omega) he1
  rw [show s.length - i = x.1 + 1 by omega] at heq
  rw [show s.length - (i + 1) = x.1 by omega, V_dg, V_drop s x.1, V_drop (out.set x.1 _) x.1, getD_set_eq _ _ (by rw [d.len]; exact x.2), heq]
  rw [show (out.set x.1 (((V (elt s x :: rest) / V t : Nat)) : Int)).drop (x.1 + 1) = out.drop (x.1 + 1) from List.drop_set_of_lt (by omega)]
  rw [show s.getD x.1 0 = elt s x from rfl]
  have h5 := Nat.div_add_mod (V (elt s x :: rest)) (V t)
  rw [Int.toNat_natCast]
  generalize V (elt s x :: rest) / V t = q at *
  generalize V (elt s x :: rest) % V t = m at *
  generalize V (out.drop (x.1 + 1)) = O at *
  rw [h2] at h5
  grind
theorem DQ.fin {s t : List Int} {out rest : List Int} (d : DQ s t (bwd s.length s.length) out rest) : V out = V s / V t ∧ V rest = V s % V t := by
  have h := d.eq s.length (Nat.le_refl _) rfl
  rw [Nat.sub_self, List.drop_zero, List.drop_zero] at h
  have hlt := d.lt
  rw [h, Nat.add_comm, Nat.add_mul_div_right _ _ (by omega), Nat.add_mul_mod_self_right, Nat.div_eq_of_lt hlt, Nat.mod_eq_of_lt hlt]
  omega
theorem R_of_own' {k : IntKind} {w : World} {base : Nat} {ok : Nat → Prop} {e : TypeId} {v : Value} {xs : List Int} (h : w.ownsRow base e 1 v xs.length (xs.map (Value.int k))) (hok : ∀ b, v.ownBlock = some b → ok b) : Kd.R (Kd.int k) e w base ok v xs :=
  ⟨hok, (R_of_own h).2⟩
theorem KeepsFrom.below {B : Nat} {W W' : World} (hb : Below W.heap.size W W') : KeepsFrom B W W' :=
  ⟨hb.size, fun k o _ hk _ => z09q hk hb⟩
end
end
theorem run_append_C {P : Program} (w : World) (k : IntKind) (base : Nat) (t ty e : TypeId) (i : TypeInfo) (z : Value) (bytes : Nat) (ht : P.underlying t = some (.slice e)) (hi : P.info? e = some i) (hz : i.zero = some z)
    (hsize : i.size = 1) (hby : i.bytes = bytes) (hzs : z.cells.size = 1) (v : Value) (n : Nat) (xs : List Value) (hown : w.ownsRow base e 1 v n xs)
    (A : Option Addr) (m c : Nat) (ys : List Int) (hr : Kd.C (Kd.int k) w A m ys) (h63 : n + m ≤ maxLen) (hbytes : (n + m) * bytes ≤ 140737488355328) (hbase : base ≤ w.heap.size) :
    ∃ v' w', (Builtin.append_ #[t, t] ty #[v, .slice A m c]).run P w = .ok v' w' ∧ w'.ownsRow base e 1 v' (n + m) (xs ++ ys.map (Value.int k)) ∧ w.grownBy w' v.ownBlock := by
  rcases A with _ | ad
  · have hm : m = 0 := by
      rcases Nat.eq_zero_or_pos m with h0 | h0
      · exact h0
      · obtain ⟨ad, h, _⟩ := hr.2.2 h0
        cases h
    subst hm
    have hn : ys = [] := List.length_eq_zero_iff.1 hr.1
    subst hn
    refine ⟨v, w, ?_, by simpa using hown, World.grownBy.refl w _⟩
    rcases hown.2 with ⟨rfl, rfl⟩ | ⟨g, cap, cur, rfl, _, _, hnc, _⟩
    · simp [Builtin.append_, run_underlying ht, sizeOf, typeInfo, hi, Builtin.lenOf, Builtin.firstCells]
    · simp [Builtin.append_, run_underlying ht, sizeOf, typeInfo, hi, Builtin.lenOf, Builtin.firstCells, hnc, storeCells]
  · have hcells : ∀ j u, (ys.map (Value.int k))[j]? = some u → w.cell? (ad.add j) = some u := by
      intro j u hu
      have hj : j < ys.length := by
        have := (List.getElem?_eq_some_iff.1 hu).1
        simpa using this
      obtain ⟨ad', e', hc⟩ := hr.2.2 (by have := hr.1; omega)
      cases e'
      obtain ⟨c', _, hK, hcc⟩ := hc j _ (List.getElem?_eq_getElem hj)
      have hK' : c' = [Value.int k ys[j]] := hK
      have h1 := hcc 0 (.int k ys[j]) (by rw [hK']; rfl)
      have h2 : (ys.map (Value.int k))[j]? = some (Value.int k ys[j]) := by simp [hj]
      rw [h2] at hu
      cases hu
      simpa [Kd.int, Kd.scalar] using h1
    obtain ⟨v', w', hrun, h2, h3, _⟩ := run_append_own (P := P) w base t ty e i z 1 bytes ht hi hz hsize hby hzs (by omega) v n xs hown ad m c (ys.map (Value.int k)) (by rw [List.length_map, hr.1]; omega) hcells (fun u hu => by obtain ⟨x, _, rfl⟩ := List.mem_map.1 hu; rfl) h63 hbytes hbase
    exact ⟨v', w', hrun, h2, h3⟩
theorem wpListIn_append_C {F : Fence} {n : Nat} {P : Program} (w : World) {ops : Array Oper} {rest : List Oper} {o : Oper} {a : Act} {Q : Exit → Act → World → Prop}
    (hg : o.guard = none) (s x : Operand) (t : TypeId) (hop : o.op = Op.call { callee := Callee.builtin Builtin.append, args := #[s, x], argTypes := #[t, t] })
    (k : IntKind) (base : Nat) (e : TypeId) (i : TypeInfo) (z : Value) (bytes : Nat) (ht : P.underlying t = some (.slice e)) (hi : P.info? e = some i) (hz : i.zero = some z)
    (hsize : i.size = 1) (hby : i.bytes = bytes) (hzs : z.cells.size = 1) (v : Value) (nn : Nat) (xs : List Value) (hs : a.eval s = v) (hown : w.ownsRow base e 1 v nn xs)
    (A : Option Addr) (m c : Nat) (ys : List Int) (hx : a.eval x = .slice A m c) (hr : Kd.C (Kd.int k) w A m ys) (h63 : nn + m ≤ maxLen) (hbytes : (nn + m) * bytes ≤ 140737488355328) (hbase : base ≤ w.heap.size)
    (hK : ∀ v' w', w'.ownsRow base e 1 v' (nn + m) (xs ++ ys.map (Value.int k)) → w.grownBy w' v.ownBlock → wpListIn F n P ops Q rest (a.put o.dst v') w') :
    wpListIn F n P ops Q (o :: rest) a w := by
  refine wpListIn_plain hg fun K hK' => ?_
  obtain ⟨v', w', hrun, r1, r2⟩ := run_append_C (P := P) w k base t o.type e i z bytes ht hi hz hsize hby hzs v nn xs hown A m c ys hr h63 hbytes hbase
  unfold Oper.wpIn
  refine ⟨?_, ?_⟩
  · simp [Oper.about, hop, resolve, Target.leads, Sem.run_pure]
  · rw [Oper.semAt_plain F _ _ (by rw [hop]; intro c hc'; cases hc')]
    simp [execOp, hop, resolve, invoke, builtin, hs, hx, hrun, Result.andThen]
    exact hK' _ _ (hK v' w' r1 r2)
theorem appended_facts {U w5 : World} {v5 : Value} {y : Int} {ys yy : List Int} {e : TypeId} {o : Obj} (hyy : yy = y :: ys) (h : w5.ownsRow U.heap.size e 1 v5 (1 + ys.length) ([.int .u32 y] ++ ys.map (Value.int .u32)))
    (hg : (U.alloc o).grownBy w5 (Value.slice (some ⟨U.heap.size, 0, none⟩) 1 1).ownBlock) : ∃ A5 c5, v5 = .slice A5 yy.length c5 ∧ Aside0 (yy.length ≤ c5 ∧ Kd.C (Kd.int .u32) w5 A5 yy.length yy ∧ Below U.heap.size U w5) := by
  have h1 : Kd.R (Kd.int .u32) e w5 U.heap.size (fun _ => True) v5 yy := by
    refine R_of_own ?_
    rw [hyy, List.length_cons, Nat.add_comm]
    exact h
  obtain ⟨A5, c5, he, hl, hC⟩ := Kd.R_reads h1
  exact ⟨A5, c5, he, ⟨hl, hC, ((Below.refl _ U).alloc (Nat.le_refl _) _).grown hg (by simp) (by intro k hk; simp [Value.ownBlock] at hk; omega)⟩⟩
set_option maxHeartbeats 4000000 in
theorem nat_digit.own (k : Nat) (A0 : Option Addr) (c0 : Nat) (l0 : List Int) (A1 : Option Addr) (c1 : Nat) (l1 : List Int) (r1 : Int) (r2 : List Int) (w : World) (base : Nat) (ok : Nat → Prop) (hbase : base ≤ w.heap.size)
    (hr0 : Kd.R (Kd.int .u32) 96 w base ok (.slice A0 l0.length c0) l0) (hr1 : Kd.C (Kd.int .u32) w A1 l1.length l1) (hc1 : l1.length ≤ c1) (h : nat_digit.f k l0 l1 = some (r1, r2)) :
    Calls Try.prog 60 #[.slice A0 l0.length c0, .slice A1 l1.length c1] w fun e w' => ∃ v1_ : Value, e = .returned (.tuple #[.int .u32 r1, v1_]) ∧ Kd.R (Kd.int .u32) 96 w' base (fun k_ => (ok k_ ∨ w.heap.size ≤ k_)) v1_ r2 ∧ Below w.heap.size w w' := by
  have HO0 := Aside0.mk (show Kd.R (Kd.int .u32) 96 w base (fun k_ => (ok k_ ∨ w.heap.size ≤ k_)) (.slice A0 l0.length c0) l0 from Kd.R_mono hr0 (fun k_ hk => .inl hk))
  have HR1 := Aside0.mk hr1
  have HC1 := Aside0.mk hc1
  have HBB := Aside0.mk hbase
  clear hr0 hr1 hc1 hbase
  have H' := Aside0.mk (show nat_digit.l0 k l0 l1 0 31 = some (r1, r2) from h)
  clear h
  go_enter Try.func60, Try.ntmps60
  go_wp2
  go_loopg [0, 6, 7] k (fun kq v0 v6 v7 w' => ∃ (x0 : List Int) (A : Option Addr) (c : Nat) (x6 x7 : Int), v0 = .slice A x0.length c ∧ v6 = .int .u32 x6 ∧ v7 = .int .i64 x7 ∧ Aside0 (nat_digit.l0 kq x0 l1 x6 x7 = some (r1, r2) ∧ kq ≤ k ∧ Kd.R (Kd.int .u32) 96 w' base (fun k_ => (ok k_ ∨ w.heap.size ≤ k_)) (.slice A x0.length c) x0 ∧ Below w.heap.size w w'))
  case atStart => exact ⟨l0, A0, c0, 0, 31, rfl, rfl, rfl, ⟨H'.out, Nat.le_refl _, HO0.out, Below.refl _ _⟩⟩
  case round =>
    clear H'
    obtain ⟨x0, A, c, x6, x7, rfl, rfl, rfl, HA⟩ := hrel
    cases gk with
    | zero => exact absurd HA.out.1 (by simp [nat_digit.l0])
    | succ k1 =>
      have H := HA.out.1
      simp only [nat_digit.l0] at H
      by_cases c3 : x7 ≥ 0
      · rw [if_pos c3] at H
        have c3b0 : decide (0 ≤ x7) = true := decide_eq_true c3
        obtain ⟨t1, A4, H⟩ := Option.bind_eq_some_iff.mp H
        obtain ⟨⟨t2, t3⟩, A5, H⟩ := Option.bind_eq_some_iff.mp H
        have A4' := Aside0.mk A4
        have A5' := Aside0.mk A5
        simp only at H
        have HX := Aside0.mk H
        have hcw : Aside0 (Kd.C (Kd.int .u32) wr A1 l1.length l1 ∧ Kd.C (Kd.int .u32) wr A x0.length x0) := ⟨Kd.C_below HR1.out HA.out.2.2.2, R_C HA.out.2.2.1⟩
        clear A4 A5 H c3
        cases t3 with
        | false =>
          have HX' := Aside0.mk (show nat_digit.l0 k1 x0 l1 x6 (wrap64 (x7 - 1)) = some (r1, r2) from HX.out)
          clear HX
          go_wp2_with (first
            | (go_at_call 59; (with_reducible refine (nat_Shift.calls k1 A1 c1 l1 x7 t1 _ hcw.out.1 HC1.out A4'.out).mono ?_); rintro e w1 ⟨v1, rfl, hv1, hb1⟩; obtain ⟨A2, c2, rfl, hl2, hC2⟩ := Kd.R_reads hv1; have F1 : Aside0 (t1.length ≤ c2 ∧ Kd.C (Kd.int .u32) w1 A2 t1.length t1 ∧ Kd.C (Kd.int .u32) w1 A x0.length x0 ∧ Kd.R (Kd.int .u32) 96 w1 base (fun k_ => (ok k_ ∨ w.heap.size ≤ k_)) (.slice A x0.length c) x0 ∧ Below w.heap.size w w1) := ⟨hl2, hC2, Kd.C_below hcw.out.2 hb1, Kd.R_below HA.out.2.2.1 hb1, HA.out.2.2.2.trans (hb1.mono HA.out.2.2.2.size)⟩; clear hv1 hb1 hl2 hC2)
            | (go_at_call 56; (with_reducible refine (nat_Sub.calls k1 A c x0 A2 c2 t1 t2 _ _ F1.out.2.2.1 (Kd.R_reads' F1.out.2.2.2.1).2.1 F1.out.2.1 F1.out.1 A5'.out).mono ?_); rintro e w2 ⟨v2, rfl, hv2, hb2⟩; obtain ⟨A3, c3, rfl, hl3, hC3⟩ := Kd.R_reads hv2; have F2 : Aside0 (Kd.R (Kd.int .u32) 96 w2 base (fun k_ => (ok k_ ∨ w.heap.size ≤ k_)) (.slice A x0.length c) x0 ∧ Kd.R (Kd.int .u32) 96 w2 base (fun k_ => (ok k_ ∨ w.heap.size ≤ k_)) (.slice A3 t2.length c3) t2 ∧ Below w.heap.size w w2) := ⟨Kd.R_below F1.out.2.2.2.1 hb2, Kd.R_lower (Kd.R_mono (Kd.R_bound hv2) (fun k_ hk => .inr (Nat.le_trans F1.out.2.2.2.2.size hk.2.1))) (Nat.le_trans HBB.out F1.out.2.2.2.2.size), F1.out.2.2.2.2.trans (hb2.mono F1.out.2.2.2.2.size)⟩; clear hv2 hb2 hl3 hC3))
          go_roundg k1
          case measure => have := HA.out.2.1; omega
          case rel => exact ⟨x0, A, c, x6, wrap64 (x7 - 1), rfl, rfl, (by first | rfl | (simp; done) | (simp [*]; done)), ⟨HX'.out, by have := HA.out.2.1; omega, F2.out.1, F2.out.2.2⟩⟩
        | true =>
          obtain ⟨ji8, hji8⟩ : ∃ j_ : Int, (shl .u32 1 x7) = j_ := ⟨_, rfl⟩
          have HX' := Aside0.mk (show nat_digit.l0 k1 t2 l1 (Go.bits .or .u32 x6 ji8) (wrap64 (x7 - 1)) = some (r1, r2) from by
            have h1 := HX.out
            rw [if_pos rfl, if_pos (of_decide_eq_true c3b0), hji8] at h1
            exact h1)
          clear HX
          have c7b0 := eq_true (of_decide_eq_true c3b0)
          have hji8_ : (IntKind.u32.wrap (1 * 2 ^ min x7.toNat 32)) = ji8 := hji8
          have hji8z : x7 ≤ 32 → (IntKind.u32.wrap (1 * 2 ^ x7.toNat)) = ji8 := shl_small hji8
          have hji8u : (IntKind.u32.wrap (2 ^ min x7.toNat 32)) = ji8 := by have h_ := hji8_; rw [Int.one_mul] at h_; exact h_
          have hji8v : x7 ≤ 32 → (IntKind.u32.wrap (2 ^ x7.toNat)) = ji8 := fun hle_ => by have h_ := hji8z hle_; rw [Int.one_mul] at h_; exact h_
          go_wp2_with (first
            | (go_at_call 59; (with_reducible refine (nat_Shift.calls k1 A1 c1 l1 x7 t1 _ hcw.out.1 HC1.out A4'.out).mono ?_); rintro e w1 ⟨v1, rfl, hv1, hb1⟩; obtain ⟨A2, c2, rfl, hl2, hC2⟩ := Kd.R_reads hv1; have F1 : Aside0 (t1.length ≤ c2 ∧ Kd.C (Kd.int .u32) w1 A2 t1.length t1 ∧ Kd.C (Kd.int .u32) w1 A x0.length x0 ∧ Kd.R (Kd.int .u32) 96 w1 base (fun k_ => (ok k_ ∨ w.heap.size ≤ k_)) (.slice A x0.length c) x0 ∧ Below w.heap.size w w1) := ⟨hl2, hC2, Kd.C_below hcw.out.2 hb1, Kd.R_below HA.out.2.2.1 hb1, HA.out.2.2.2.trans (hb1.mono HA.out.2.2.2.size)⟩; clear hv1 hb1 hl2 hC2)
            | (go_at_call 56; (with_reducible refine (nat_Sub.calls k1 A c x0 A2 c2 t1 t2 _ _ F1.out.2.2.1 (Kd.R_reads' F1.out.2.2.2.1).2.1 F1.out.2.1 F1.out.1 A5'.out).mono ?_); rintro e w2 ⟨v2, rfl, hv2, hb2⟩; obtain ⟨A3, c3, rfl, hl3, hC3⟩ := Kd.R_reads hv2; have F2 : Aside0 (Kd.R (Kd.int .u32) 96 w2 base (fun k_ => (ok k_ ∨ w.heap.size ≤ k_)) (.slice A x0.length c) x0 ∧ Kd.R (Kd.int .u32) 96 w2 base (fun k_ => (ok k_ ∨ w.heap.size ≤ k_)) (.slice A3 t2.length c3) t2 ∧ Below w.heap.size w w2) := ⟨Kd.R_below F1.out.2.2.2.1 hb2, Kd.R_lower (Kd.R_mono (Kd.R_bound hv2) (fun k_ hk => .inr (Nat.le_trans F1.out.2.2.2.2.size hk.2.1))) (Nat.le_trans HBB.out F1.out.2.2.2.2.size), F1.out.2.2.2.2.trans (hb2.mono F1.out.2.2.2.2.size)⟩; clear hv2 hb2 hl3 hC3))
          go_roundg k1
          case measure => have := HA.out.2.1; omega
          case rel => exact ⟨t2, A3, c3, Go.bits .or .u32 x6 ji8, wrap64 (x7 - 1), rfl, (by first | rfl | (simp; done) | (simp only [← hji8] <;> (first | rfl | simp)) | (simp [*]; done)), (by first | rfl | (simp; done) | (simp [*]; done)), ⟨HX'.out, by have := HA.out.2.1; omega, F2.out.2.1, F2.out.2.2⟩⟩
      · rw [if_neg c3] at H
        have c3b0 : decide (0 ≤ x7) = false := decide_eq_false c3
        simp only [Option.some.injEq, Prod.mk.injEq] at H
        obtain ⟨rfl, rfl⟩ := H
        clear c3
        go_wp2
        go_ret2
        exact ⟨_, rfl, HA.out.2.2.1, HA.out.2.2.2⟩
section
variable {F : Fence} {n : Nat} {P : Program} {ops : Array Oper} {Q : Exit → Act → World → Prop} {md : Region.Mode} {S : World → Prop}
def YieldsHeld (P : Program) (ops : Array Oper) (S : World → Prop) (o : Oper) (v : Value) (a : Act) : Prop := YieldsIf P ops S o v a ∧ ∀ w, o.about P w a.eval = none
theorem YieldsHeld.wpOpIn {i : Nat} {o : Oper} {v : Value} {a : Act} (hd : ∀ c, o.op ≠ .defer c) (hi : ops[i]? = some o) (hy : YieldsHeld P ops S o v a)
    {K : Act → World → Prop} {w : World} (hS : S w) (h : K (a.put o.dst v) w) : wpOpIn F n P ops Q i K a w := by
  unfold Go.wpOpIn
  simp only [hi]
  have hab : ∀ f, o.about P w a.eval = some f → F.fn f := fun f hf => by rw [hy.2 w] at hf; cases hf
  rcases hy.1 with ⟨hw, hv⟩ | ⟨hw, rfl⟩
  · simp only [hw, if_true, Oper.wpIn, Oper.semAt_eq _ _ _ hd, hv w hS, Oper.uponIn]; exact ⟨hab, h⟩
  · simp only [hw, Bool.false_eq_true, if_false]; exact ⟨hab, h⟩
theorem YieldsHeld.of_same {o : Oper} {v : Value} {a a' : Act} (hy : YieldsHeld P ops S o v a) (he : execOp a'.eval o = execOp a.eval o)
    (hw : Region.wanted o (yielded ops a'.tmps) = Region.wanted o (yielded ops a.tmps)) (hb : ∀ w, o.about P w a'.eval = o.about P w a.eval) : YieldsHeld P ops S o v a' :=
  ⟨hy.1.of_same he hw, fun w => by rw [hb w]; exact hy.2 w⟩
theorem wpOpIn_putHeld {j : Nat} {oi oj : Oper} {v : Value} (hdj : ∀ c, oj.op ≠ .defer c) (hj : ops[j]? = some oj) (hap : oi.apart ops oj = true)
    (hsi : ∀ cs b, oi.op ≠ .select cs b) (hsj : ∀ cs b, oj.op ≠ .select cs b)
    (hQ : ∀ c a w, Q (.panic c) (a.put oi.dst v) w → Q (.panic c) a w) {K : Act → World → Prop} {a : Act} {w : World}
    (hy : YieldsHeld P ops S oi v a) (h : wpOpIn F n P ops Q j K (a.put oi.dst v) w) :
    wpOpIn F n P ops Q j (fun a' w' => YieldsHeld P ops S oi v a' ∧ K (a'.put oi.dst v) w') a w := by
  obtain ⟨h1, h2, h3⟩ := Oper.apart_spec hap
  have keep : ∀ (a : Act), YieldsHeld P ops S oi v a → ∀ u, YieldsHeld P ops S oi v (a.put oj.dst u) := fun a hy u =>
    hy.of_same (execOp_put oi hsi a oj.dst u h3) (wanted_put oi a oj.dst u h3) (fun w => about_put oi w a oj.dst u h3)
  have keepD : ∀ d, YieldsHeld P ops S oi v { a with defers := d :: a.defers } := fun d => hy.of_same rfl rfl (fun _ => rfl)
  unfold wpOpIn at *
  simp only [hj] at *
  rw [wanted_put oj a oi.dst v h1, about_put oj w a oi.dst v h1] at h
  split
  · rename_i hw
    simp only [hw, if_true] at h
    unfold Oper.wpIn at *
    rw [about_put oj w a oi.dst v h1] at h
    refine ⟨h.1, ?_⟩
    have h := h.2
    rw [Oper.semAt_eq _ _ _ hdj, execOp_put oj hsj a oi.dst v h1] at h
    rw [Oper.semAt_eq _ _ _ hdj]
    generalize (execOp a.eval oj).run P w = r at *
    cases r with
    | ok x w' =>
      cases x <;> simp only [Oper.uponIn] at h ⊢
      case value u => exact ⟨keep a hy u, by rw [← Act.put_comm a v u h2]; exact h⟩
      case skip => exact ⟨keep a hy _, by rw [← Act.put_comm a v undef h2]; exact h⟩
      case defer d =>
        refine ⟨keep _ (keepD d) _, ?_⟩
        rw [← Act.put_comm _ v undef h2, ← Act.put_defers]
        exact h
      case enter f args =>
        refine ⟨h.1, CallsIn.mono h.2 fun e w'' he => ?_⟩
        cases e with
        | returned u => exact ⟨keep a hy u, by rw [← Act.put_comm a v u h2]; exact he⟩
        | panicked c => exact hQ _ _ _ he
        | outgrown => exact he
      case row row args => exact ⟨h.1, RowsIn.mono h.2 fun u w'' he => ⟨keep a hy u, by rw [← Act.put_comm a v u h2]; exact he⟩⟩
      case round l f tmps assign body =>
        refine ⟨h.1, RoundIn.mono h.2 fun e w'' he => ?_⟩
        cases e with
        | returned u => exact ⟨keep a hy u, by rw [← Act.put_comm a v u h2]; exact he⟩
        | panicked c => exact hQ _ _ _ he
        | outgrown => exact he
    | halt x w' =>
      cases x <;> simp only [Oper.uponIn] at h ⊢
      case panic u => exact hQ _ _ _ h
  · rename_i hw
    simp only [hw] at h
    exact ⟨h.1, keep a hy _, by rw [← Act.put_comm a v undef h2]; exact h.2⟩
def wpAnyHIn (F : Fence) (n : Nat) (P : Program) (md : Region.Mode) (ops : Array Oper) (Q : Exit → Act → World → Prop) (S : World → Prop) : Nat → Array Bool → Act → World → Prop
  | 0, listed, a, w => Region.ready md ops listed = [] ∧ Q .normal a w
  | fuel + 1, listed, a, w =>
    (Region.ready md ops listed = [] → Q .normal a w) ∧
    ∀ i ∈ Region.ready md ops listed, wpOpIn F n P ops Q i (fun a' w' => S w' ∧ wpAnyHIn F n P md ops Q S fuel (listed.setIfInBounds i true) a' w') a w
theorem wpAnyIn_of_held : ∀ (fuel : Nat) (listed : Array Bool) (a : Act) (w : World), wpAnyHIn F n P md ops Q S fuel listed a w → wpAnyIn F n P md ops Q fuel listed a w
  | 0, _, _, _, h => h
  | fuel + 1, _, _, _, h => ⟨h.1, fun i hi => wpOpIn_mono (fun a' w' h' => wpAnyIn_of_held fuel _ a' w' h'.2) (h.2 i hi)⟩
theorem wpAnyHIn_first {i : Nat} {oi : Oper} {v : Value} (hds : ∀ (j : Nat) (o : Oper) c, ops[j]? = some o → o.op ≠ .defer c) (hi : ops[i]? = some oi) (hsel : ∀ (j : Nat) (o : Oper) cs b, ops[j]? = some o → o.op ≠ .select cs b)
    (hQ : ∀ c a w, Q (.panic c) (a.put oi.dst v) w → Q (.panic c) a w) :
    ∀ (fuel : Nat) (listed : Array Bool) (a : Act) (w : World),
      (∀ j oj, ops[j]? = some oj → j ≠ i → listed.getD j true = false → (∀ e ∈ oj.after, Region.binds md e = true → e.on ≠ i) → oi.apart ops oj = true) →
      i ∈ Region.ready md ops listed → YieldsHeld P ops S oi v a → S w →
      wpAnyHIn F n P md ops Q S fuel (listed.setIfInBounds i true) (a.put oi.dst v) w → wpAnyHIn F n P md ops Q S (fuel + 1) listed a w := by
  intro fuel
  induction fuel with
  | zero =>
    intro listed a w _ hr hy hS H
    refine ⟨fun h => (by rw [h] at hr; cases hr), fun j hj => ?_⟩
    by_cases hji : j = i
    · subst hji; exact hy.wpOpIn (fun c => hds _ _ c hi) hi hS ⟨hS, H⟩
    · have := ready_mono hj hji
      rw [H.1] at this
      cases this
  | succ fuel ih =>
    intro listed a w hfree hr hy hS H
    refine ⟨fun h => (by rw [h] at hr; cases hr), fun j hj => ?_⟩
    by_cases hji : j = i
    · subst hji; exact hy.wpOpIn (fun c => hds _ _ c hi) hi hS ⟨hS, H⟩
    · have h1 := H.2 j (ready_mono hj hji)
      obtain ⟨hjun, oj, hoj, hall⟩ := mem_ready.1 hj
      have hnot : ∀ e ∈ oj.after, Region.binds md e = true → e.on ≠ i := fun e he hb heq => by
        have h1 := hall e he hb
        have h0 := (mem_ready.1 hr).1
        rw [heq] at h1
        rcases Nat.lt_or_ge i listed.size with h' | h'
        · simp [h'] at h0 h1; rw [h0] at h1; cases h1
        · simp [Array.getElem?_eq_none h'] at h1
      have h2 := wpOpIn_putHeld (fun c => hds _ _ c hoj) hoj (hfree j oj hoj hji hjun hnot) (fun cs b => hsel i oi cs b hi) (fun cs b => hsel j oj cs b hoj) hQ hy h1
      have hfree' : ∀ k ok, ops[k]? = some ok → k ≠ i → (listed.setIfInBounds j true).getD k true = false →
          (∀ e ∈ ok.after, Region.binds md e = true → e.on ≠ i) → oi.apart ops ok = true := fun k ok hk hki hun hno => by
        refine hfree k ok hk hki ?_ hno
        by_cases hjk : j = k
        · subst hjk; exact hjun
        · rw [Go.getD_set_ne true hjk] at hun; exact hun
      refine wpOpIn_mono (fun a' w' h3 => ⟨h3.2.1, ih (listed.setIfInBounds j true) a' w' hfree' (ready_mono hr (Ne.symm hji)) h3.1 h3.2.1 ?_⟩) h2
      rw [Array.setIfInBounds_comm _ _ hji]
      exact h3.2.2
def noDefer (ops : Array Oper) : Bool := ops.all fun o => match o.op with | .defer _ => false | _ => true
theorem noDefer_spec {ops : Array Oper} (h : noDefer ops = true) : ∀ (j : Nat) (o : Oper) c, ops[j]? = some o → o.op ≠ .defer c := fun j o c hj e => by
  have := Array.all_eq_true'.1 h o (Array.mem_of_getElem? hj)
  rw [e] at this
  cases this
theorem wpAnyHIn_take {i : Nat} {oi : Oper} {v : Value} {fuel : Nat} {listed : Array Bool} {a : Act} {w : World} (hd : noDefer ops = true) (hi : ops[i]? = some oi)
    (hs : Region.noSelect ops = true) (hf : Region.free md ops listed i = true) (hr : (Region.ready md ops listed).contains i = true)
    (hQ : ∀ c a w, Q (.panic c) (a.put oi.dst v) w → Q (.panic c) a w) (hy : YieldsHeld P ops S oi v a) (hS : S w)
    (h : wpAnyHIn F n P md ops Q S fuel (listed.setIfInBounds i true) (a.put oi.dst v) w) : wpAnyHIn F n P md ops Q S (fuel + 1) listed a w :=
  wpAnyHIn_first (noDefer_spec hd) hi (Region.noSelect_spec hs) hQ fuel listed a w (Region.free_spec hi hf) (by simpa using hr) hy hS h
theorem z12q {i : Nat} {oi : Oper} {v : Value} {dst : Nat} {fuel : Nat} {listed : Array Bool} {a : Act} {w : World} (hd : noDefer ops = true) (hi : ops[i]? = some oi) (hdst : oi.dst = some dst)
    (hs : Region.noSelect ops = true) (hf : Region.free md ops listed i = true) (hr : (Region.ready md ops listed).contains i = true)
    (hQ : ∀ c (a : Act) w, Q (.panic c) { a with tmps := a.tmps.setIfInBounds dst v } w → Q (.panic c) a w) (hy : YieldsHeld P ops S oi v a) (hS : S w)
    (h : wpAnyHIn F n P md ops Q S fuel (listed.setIfInBounds i true) { a with tmps := a.tmps.setIfInBounds dst v } w) : wpAnyHIn F n P md ops Q S (fuel + 1) listed a w :=
  wpAnyHIn_take hd hi hs hf hr (by rw [hdst]; exact hQ) hy hS (by rw [hdst]; exact h)
theorem z20q {i : Nat} {o : Oper} {fuel : Nat} {listed : Array Bool} {a : Act} {w : World} (hr : Region.ready md ops listed = [i]) (ho : ops[i]? = some o)
    (h : ∀ K' : Act → World → Prop, (∀ a w, S w → wpAnyHIn F n P md ops Q S fuel (listed.setIfInBounds i true) a w → K' a w) → if Region.wanted o (yielded ops a.tmps) = true then Oper.wpIn F n P o a w K' Q else (∀ f, o.about P w a.eval = some f → F.fn f) ∧ K' (a.put o.dst undef) w) : wpAnyHIn F n P md ops Q S (fuel + 1) listed a w :=
  ⟨fun h0 => (by rw [hr] at h0; cases h0), fun j hj => by
    rw [hr] at hj
    obtain rfl := List.mem_singleton.1 hj
    exact wpOpIn_step ho (fun K' hK => h K' (fun a w hS hW => hK a w ⟨hS, hW⟩))⟩
theorem wpAnyHIn_two {i j : Nat} {o o' : Oper} {fuel : Nat} {listed : Array Bool} {a : Act} {w : World} (hr : Region.ready md ops listed = [i, j]) (ho : ops[i]? = some o) (ho' : ops[j]? = some o')
    (h : ∀ K' : Act → World → Prop, (∀ a w, S w → wpAnyHIn F n P md ops Q S fuel (listed.setIfInBounds i true) a w → K' a w) → if Region.wanted o (yielded ops a.tmps) = true then Oper.wpIn F n P o a w K' Q else (∀ f, o.about P w a.eval = some f → F.fn f) ∧ K' (a.put o.dst undef) w)
    (h' : ∀ K' : Act → World → Prop, (∀ a w, S w → wpAnyHIn F n P md ops Q S fuel (listed.setIfInBounds j true) a w → K' a w) → if Region.wanted o' (yielded ops a.tmps) = true then Oper.wpIn F n P o' a w K' Q else (∀ f, o'.about P w a.eval = some f → F.fn f) ∧ K' (a.put o'.dst undef) w) : wpAnyHIn F n P md ops Q S (fuel + 1) listed a w :=
  ⟨fun h0 => (by rw [hr] at h0; cases h0), fun k hk => by
    rw [hr] at hk
    rcases List.mem_cons.1 hk with rfl | hk
    · exact wpOpIn_step ho (fun K' hK => h K' (fun a w hS hW => hK a w ⟨hS, hW⟩))
    · obtain rfl := List.mem_singleton.1 hk
      exact wpOpIn_step ho' (fun K' hK => h' K' (fun a w hS hW => hK a w ⟨hS, hW⟩))⟩
theorem wpAnyHIn_done {fuel : Nat} {listed : Array Bool} {a : Act} {w : World} (hr : Region.ready md ops listed = []) (h : Q .normal a w) : wpAnyHIn F n P md ops Q S fuel listed a w :=
  match fuel with
  | 0 => ⟨hr, h⟩
  | _ + 1 => ⟨fun _ => h, by rw [hr]; simp⟩
theorem wpIn_region_held {id : Nat} {a : Act} {w : World} (S : World → Prop) (hm : P.follows .mixedOrders = true)
    (h : wpAnyHIn F n P .any ops Q S ops.size (Array.replicate ops.size false) a w.drew) : (Code.region id ops true).wpIn F n P Q a w :=
  wpIn_region_any hm (wpAnyIn_of_held _ _ _ _ h)
end
theorem one_facts {yy t r1 : List Int} (ht1 : t.length = 1) (hw : W32 t) (hpos : 0 < V t) (hlt : V yy < 4294967296 * V t) (hr1 : r1 = dg (V yy)) :
    ∃ (b0 n q m : Int) (k2 k3 : Nat) (r2 : List Int), t = [b0] ∧ 0 < b0 ∧ b0 < 4294967296 ∧ 0 ≤ n ∧ n < 18446744073709551616 ∧ nat_Small.f k2 r1 = some (n, true) ∧ nat_Of.f k3 m = some r2 ∧
      n / b0 = q ∧ n % b0 = m ∧ 0 ≤ q ∧ q < 4294967296 ∧ 0 ≤ m ∧ m < 4294967296 ∧ q = ((V yy / V t : Nat) : Int) ∧ r2 = dg (V yy % V t) := by
  obtain ⟨b0, rfl⟩ := List.length_eq_one_iff.1 ht1
  have hb : 0 ≤ b0 ∧ b0 < 4294967296 := (W32_cons.1 hw).1
  have hV : V [b0] = b0.toNat := by simp [V]
  rw [hV] at hpos hlt
  have hn : V yy < 18446744073709551616 := by omega
  have hl : r1.length ≤ 2 := by rw [hr1]; exact z19q.2 hn
  obtain ⟨k2, hk2⟩ := (Small_ev (l := r1) (by rw [hr1]; exact W32_dg _) (by omega)).rounds
  rw [show V r1 = V yy from by rw [hr1, V_dg], if_pos hn] at hk2
  have hbb : ((b0.toNat : Nat) : Int) = b0 := by omega
  have hm0 : 0 ≤ ((V yy : Nat) : Int) % b0 := Int.emod_nonneg _ (by omega)
  have hm1 : ((V yy : Nat) : Int) % b0 < b0 := Int.emod_lt_of_pos _ (by omega)
  obtain ⟨k3, hk3⟩ := (Of_ev (n := ((V yy : Nat) : Int) % b0) hm0 (by omega)).rounds
  have e1 : ((V yy : Nat) : Int) / b0 = ((V yy / b0.toNat : Nat) : Int) := by rw [Int.natCast_ediv, hbb]
  have e2 : (((V yy : Nat) : Int) % b0).toNat = V yy % b0.toNat := by
    have : ((V yy % b0.toNat : Nat) : Int) = ((V yy : Nat) : Int) % b0 := by rw [Int.natCast_emod, hbb]
    omega
  have hq : V yy / b0.toNat < 4294967296 := Nat.div_lt_of_lt_mul (by rw [Nat.mul_comm]; exact hlt)
  rw [e2] at hk3
  exact ⟨b0, _, _, _, k2, k3, _, rfl, by omega, hb.2, Int.natCast_nonneg _, by omega, hk2, hk3, rfl, rfl, by rw [e1]; exact Int.natCast_nonneg _, by rw [e1]; exact Int.ofNat_lt.2 hq, hm0, by omega, by rw [hV]; exact e1, by rw [hV]⟩
theorem C_cell0 {W : World} {ad : Addr} {n : Nat} {b0 : Int} {l : List Int} (h : Kd.C (Kd.int .u32) W (some ad) n l) (hl : l = [b0]) : W.cell? ad = some (.int .u32 b0) := by
  subst hl
  have hn : n = 1 := h.1.symm
  obtain ⟨ad', e, hcell⟩ := h.2.2 (by omega)
  cases e
  obtain ⟨c, _, hK, hcc⟩ := hcell 0 b0 rfl
  have hK' : c = [Value.int .u32 b0] := hK
  have := hcc 0 (.int .u32 b0) (by rw [hK']; rfl)
  simpa [Kd.int, Kd.scalar, go_sem] using this
section
attribute [local go_sem] Oper.semAt_some
set_option maxHeartbeats 8000000 in
theorem nat_DivMod.calls (A0 : Option Addr) (c0 : Nat) (l0 : List Int) (A1 : Option Addr) (c1 : Nat) (l1 : List Int) (r1 r2 : List Int) (r3 : Int) (w : World) (hr0 : Kd.C (Kd.int .u32) w A0 l0.length l0) (hc0 : l0.length ≤ c0) (hr1 : Kd.C (Kd.int .u32) w A1 l1.length l1) (hc1 : l1.length ≤ c1) (h : nat_DivMod.f l0 l1 = some (r1, r2, r3)) :
    Calls Try.prog 49 #[.slice A0 l0.length c0, .slice A1 l1.length c1] w fun e w' => ∃ v0_ v1_ : Value, e = .returned (.tuple #[v0_, v1_, .int .i64 r3]) ∧ Kd.R (Kd.int .u32) 96 w' w.heap.size (fun k_ => some k_ ≠ (v1_ : Value).ownBlock) v0_ r1 ∧ Kd.R (Kd.int .u32) 96 w' w.heap.size (fun k_ => some k_ ≠ (v0_ : Value).ownBlock) v1_ r2 ∧ Below w.heap.size w w' := by
  unfold nat_DivMod.f at h
  split at h
  case isFalse => cases h
  case isTrue hg =>
  obtain ⟨hw0, hw1, hl0, hl1⟩ := hg
  rw [W32b_iff] at hw0 hw1
  obtain ⟨k, hs, ht⟩ : ∃ k, nat_trim.f k l0 = some (dg (V l0)) ∧ nat_trim.f k l1 = some (dg (V l1)) := by
    obtain ⟨K1, h1⟩ := trim_ev hw0 (by omega)
    obtain ⟨K2, h2⟩ := trim_ev hw1 (by omega)
    exact ⟨max K1 K2, h1 _ (Nat.le_max_left _ _), h2 _ (Nat.le_max_right _ _)⟩
  obtain ⟨s, hsd⟩ : ∃ s, s = dg (V l0) := ⟨_, rfl⟩
  obtain ⟨t, htd⟩ : ∃ t, t = dg (V l1) := ⟨_, rfl⟩
  rw [← hsd] at hs
  rw [← htd] at ht
  have HSD : Hid (s = dg (V l0)) := hsd
  have HTD : Hid (t = dg (V l1)) := htd
  have HS : Hid (nat_trim.f k l0 = some s) := hs
  have HT : Hid (nat_trim.f k l1 = some t) := ht
  have HF : Hid ((if V l1 = 0 then some (([] : List Int), ([] : List Int), (5 : Int)) else some (dg (V l0 / V l1), dg (V l0 % V l1), 0)) = some (r1, r2, r3)) := h
  clear hsd htd hs ht h
  have HR0 := Aside0.mk hr0
  have HC0 := Aside0.mk hc0
  have HR1 := Aside0.mk hr1
  have HC1 := Aside0.mk hc1
  have HL := Aside0.mk (And.intro hl0 hl1)
  clear hr0 hc0 hr1 hc1 hl0 hl1
  refine (callsIn_wide (n := 4)).1 ?_
  refine callsIn_of_wp_marks Try.func49 rfl trivial ?_ rfl
  refine wpIn_noPanic ?_
  have hmx : Try.prog.follows .mixedOrders = true := by kernel_rfl
  simp only [Try.ntmps49, List.size_toArray, List.length_cons, List.length_nil, Nat.reduceAdd, Nat.reduceSub, Array.replicate_succ, Array.replicate_zero, List.push_toArray, List.append_toArray, List.nil_append, List.cons_append]
  gi_wp2
  have hb0 : Aside0 (Below w.heap.size w (w.alloc (.cells #[.slice A1 l1.length c1] 35)).drew) := ⟨((Below.refl _ w).alloc (Nat.le_refl _) _).drew⟩
  have bS : Aside0 (Boxed (w.alloc (.cells #[.slice A1 l1.length c1] 35)).drew w.heap.size 35 (.slice A1 l1.length c1)) := ⟨Boxed.new w _ _⟩
  have hz0 : Aside0 (w.heap.size + 1 ≤ (w.alloc (.cells #[.slice A1 l1.length c1] 35)).drew.heap.size) := ⟨by simp⟩
  gi_region_with_o (first
    | (refine ⟨trivial, ?_⟩; gi_at_call 50; (with_reducible refine (callsIn_wide.2 (nat_trim.calls k A0 c0 l0 s _ (Kd.C_below HR0.out hb0.out) HC0.out HS.out)).mono ?_); rintro e w1 ⟨v1, rfl, hv1, hb1⟩; obtain ⟨A2, c2, rfl, hl2, hC2⟩ := Kd.R_reads hv1; have k0 := Boxed.cell (boxed_below bS.out hb1); have HV1 := Aside0.mk (Kd.R_lower hv1 hz0.out); have HB1 : Aside0 (Below w.heap.size w w1) := ⟨hb0.out.trans (hb1.mono hb0.out.size)⟩; have F1 : Aside0 (Boxed w1 w.heap.size 35 (.slice A1 l1.length c1) ∧ w.heap.size + 1 ≤ w1.heap.size) := ⟨boxed_below bS.out hb1, Nat.le_trans hz0.out hb1.size⟩; clear hv1 hb1 hC2)
    | (refine ⟨trivial, ?_⟩; gi_at_call 50; (with_reducible refine (callsIn_wide.2 (nat_trim.calls k A1 c1 l1 t _ (Kd.C_below HR1.out HB1.out) HC1.out HT.out)).mono ?_); rintro e w2 ⟨v2, rfl, hv2, hb2⟩; obtain ⟨A3, c3, rfl, hl3, hC3⟩ := Kd.R_reads hv2; have k2 := Boxed.cell (boxed_below F1.out.1 hb2); have k3 := Boxed.frozen (boxed_below F1.out.1 hb2); have F2 : Aside0 (Boxed w2 w.heap.size 35 (.slice A1 l1.length c1) ∧ Kd.R (Kd.int .u32) 96 w2 (w.heap.size + 1) (fun _ => True) (.slice A2 s.length c2) s ∧ Below w.heap.size w w2 ∧ Kd.R (Kd.int .u32) 96 w2 (w.heap.size + 1) (fun _ => True) (.slice A3 t.length c3) t) := ⟨boxed_below F1.out.1 hb2, Kd.R_below HV1.out hb2, HB1.out.trans (hb2.mono HB1.out.size), Kd.R_lower hv2 F1.out.2⟩; clear hv2 hb2 hC3))
  all_goals
    obtain ⟨f1, f2, f3, f4⟩ := F2.out
    have G1 := R_set_below f2 (p := ⟨w.heap.size, 0, none⟩) (by simp) (.slice A3 t.length c3)
    have G2 := R_set_below f4 (p := ⟨w.heap.size, 0, none⟩) (by simp) (.slice A3 t.length c3)
    have G3 := f3.setCell (p := ⟨w.heap.size, 0, none⟩) (Nat.le_refl _) (.slice A3 t.length c3)
    have G4 := f1.set (.slice A3 t.length c3)
    clear f1 f2 f3 f4 F2 k2 k3 k0
    clear F1 HV1 HB1 hz0 bS
    generalize (w2.setCell ⟨w.heap.size, 0, none⟩ (.slice A3 t.length c3)) = W at *
    have g4 := G4.cell
  all_goals
    by_cases hv : V l1 = 0
    · obtain rfl : t = [] := by rw [HTD.out, hv, dg_zero]
      have hf := HF.out
      rw [if_pos hv] at hf
      obtain ⟨rfl, hf2⟩ := Prod.mk.inj (Option.some.inj hf)
      obtain ⟨rfl, rfl⟩ := Prod.mk.inj hf2
      clear hf hf2 hv HF HTD
      gi_wp2
      exact LeavesInM_nil rfl (v := .tuple #[.slice none 0 0, .slice none 0 0, .int .i64 5]) (by simp [results, Try.f49, go_sem]) ⟨_, _, rfl, Kd.R_nil _ _ _ _ _, Kd.R_nil _ _ _ _ _, G3⟩
    · have hf := HF.out
      rw [if_neg hv] at hf
      obtain ⟨rfl, hf2⟩ := Prod.mk.inj (Option.some.inj hf)
      obtain ⟨rfl, rfl⟩ := Prod.mk.inj hf2
      have htl : 0 < t.length := by
        rcases Nat.eq_zero_or_pos t.length with h0 | h0
        · have h1 : t = [] := List.length_eq_zero_iff.1 h0
          rw [HTD.out, dg_nil] at h1
          exact absurd h1 hv
        · exact h0
      have e3 : ¬ t = [] := by intro h0; rw [h0] at htl; simp at htl
      have e1 : ((t.length : Int) == 0) = false := by simp [e3]
      have e2 : (t.length == 0) = false := by simp [e3]
      clear hf hf2 HF
      have b1 := (R_C G1).2.1
      have b2 := (R_C G2).2.1
      have HV : Hid (0 < V l1) := Nat.pos_of_ne_zero hv
      clear hv
      have hsl : s.length ≤ 274877906944 := by
        have := HSD.out
        rw [this]
        exact Nat.le_trans (z19q.2 (V_lt hw0)) HL.out.1
      have htl2 : t.length ≤ 274877906944 := by
        have := HTD.out
        rw [this]
        exact Nat.le_trans (z19q.2 (V_lt hw1)) HL.out.2
      have hmk := run_make_row' (P := Try.prog) 35 96 (.int .u32 0) 4 Try.underlying35 (by kernel_rfl) rfl .i64 .i64 s.length (by omega) (by omega)
      gi_wp2_with (first | (refine ⟨trivial, ?_⟩; gi_at_call 58; refine (nat_Backward.in_ Fence.wide 3 trivial rfl _ _ _ _).mono ?_; rintro e w' ⟨rfl, rfl⟩))
      obtain ⟨W4, hW4⟩ : ∃ W4, (((W.alloc (.cells (madeCells #[.int .u32 0] s.length) 96)).alloc (.cells #[.slice (some ⟨W.heap.size, 0, none⟩) s.length s.length] 35)).alloc (.cells #[.slice none 0 0] 35)).alloc (.cells #[.slice A2 s.length c2] 35) = W4 := ⟨_, rfl⟩
      have hBW : Below W.heap.size W W4 := by
        rw [← hW4]
        exact ((((Below.refl _ W).alloc (Nat.le_refl _) _).alloc (by simp) _).alloc (by simp; omega) _).alloc (by simp; omega) _
      have hz4 : W4.heap.size = W.heap.size + 1 + 1 + 1 + 1 := by rw [← hW4]; simp
      have hwW : w.heap.size < W.heap.size := G4.lt
      have dm : DM w W.heap.size (W.heap.size + 1) (W.heap.size + 1 + 1) A3 c3 s.length s.length t (List.replicate s.length 0) [] none 0 W4 := by
        rw [← hW4]
        refine ⟨⟨hwW, by omega, by omega⟩, by simp, ?_, ?_, ?_, ?_, ?_, ?_, ?_⟩
        · exact ((((G4.alloc _).alloc _).alloc _).alloc _)
        · have := Boxed.new (W.alloc (.cells (madeCells #[.int .u32 0] s.length) 96)) 35 (.slice (some ⟨W.heap.size, 0, none⟩) s.length s.length)
          rw [World.size_alloc] at this
          exact (this.alloc _).alloc _
        · have := Boxed.new ((W.alloc (.cells (madeCells #[.int .u32 0] s.length) 96)).alloc (.cells #[.slice (some ⟨W.heap.size, 0, none⟩) s.length s.length] 35)) 35 (.slice none 0 0)
          rw [World.size_alloc, World.size_alloc] at this
          exact this.alloc _
        · have hb := hBW
          rw [← hW4] at hb
          exact Kd.R_below (Kd.R_mono (Kd.R_bound G2) (fun k hk => by have := hk.2.2.1; omega)) hb
        · have ho := own_made W (w.heap.size + 1) 96 .u32 s.length (by omega) (by omega)
          have hb := hBW
          have hb2 : Below (W.alloc (.cells (madeCells #[.int .u32 0] s.length) 96)).heap.size (W.alloc (.cells (madeCells #[.int .u32 0] s.length) 96)) ((((W.alloc (.cells (madeCells #[.int .u32 0] s.length) 96)).alloc (.cells #[.slice (some ⟨W.heap.size, 0, none⟩) s.length s.length] 35)).alloc (.cells #[.slice none 0 0] 35)).alloc (.cells #[.slice A2 s.length c2] 35)) := (((Below.refl _ _).alloc (Nat.le_refl _) _).alloc (by simp) _).alloc (by simp) _
          refine Kd.R_below (R_of_own' (k := .u32) (xs := List.replicate s.length 0) ?_ (fun b hb' => ?_)) hb2
          · rw [List.length_replicate]; exact ho
          · simp [Value.ownBlock] at hb'
            exact hb'.symm
        · exact Kd.R_nil _ _ _ _ _
        · have hb := hBW
          rw [← hW4] at hb
          exact G3.trans (hb.mono G3.size)
      have hbS : Boxed W4 (W.heap.size + 1 + 1 + 1) 35 (.slice A2 s.length c2) := by
        rw [← hW4]
        have := Boxed.new (((W.alloc (.cells (madeCells #[.int .u32 0] s.length) 96)).alloc (.cells #[.slice (some ⟨W.heap.size, 0, none⟩) s.length s.length] 35)).alloc (.cells #[.slice none 0 0] 35)) 35 (.slice A2 s.length c2)
        rw [World.size_alloc, World.size_alloc, World.size_alloc] at this
        exact this
      rw [hW4]
      clear hW4
      generalize hBo : W.heap.size + 1 = Bo at *
      generalize hBr : Bo + 1 = Br at *
      generalize hBs : Br + 1 = Bs at *
      have hBW' := hBW
      have hz5 : Bs < W4.heap.size := hbS.lt
      refine wpIn_rangeFunc_ownG (n := 4) rfl (by decide) (gf := 64) (lb := #[.pointer (some ⟨Bs, 0, none⟩)]) rfl trivial (enters_of Try.func64 (by kernel_rfl) rfl)
        (nat_Backward.stops Fence.wide 3 trivial rfl (by omega) Bs W.heap.size A2 c2 s _ hz5 (by omega) hbS.cell W rfl hBW (R_C G1)) KeptB.t (KeptB.b (by omega) hz5) (Below.refl _ _) (fun _ => rfl)
        (fun pre U => (∃ out rest Ar cr, DM w W.heap.size Bo Br A3 c3 s.length s.length t out rest Ar cr U ∧ DQ s t pre out rest) ∧ W4.heap.size ≤ U.heap.size)
        (fun _ _ _ => False)
        (fun pre X Y row hs hg hr => by
          obtain ⟨⟨out, rest, Ar, cr, h1, h2⟩, h3⟩ := hs
          exact ⟨⟨out, rest, Ar, cr, h1.kept hg (fun r e => ⟨by have := (hr r e).1; omega, (hr r e).2⟩), h2⟩, Nat.le_trans h3 hg.size⟩)
        (fun _ _ _ _ _ hs _ _ => hs)
        ⟨⟨_, _, _, _, dm, DQ.start (by rw [HTD.out, V_dg]; exact HV.out)⟩, Nat.le_refl _⟩
        (fun x => { tmps := #[.slice A2 s.length c2, .slice A1 l1.length c1, undef, .pointer (some ⟨w.heap.size, 0, none⟩), .slice none 0 0, .slice none 0 0, .int .i64 0, .pointer (some ⟨Bo, 0, none⟩), .pointer (some ⟨Br, 0, none⟩), .int .i64 (x.1 : Int), .int .u32 (elt s x), undef, undef, .slice A0 l0.length c0, .slice A2 s.length c2, .slice A1 l1.length c1, .slice A3 t.length c3, .slice A3 t.length c3, .int .i64 t.length, .bool false, .slice A2 s.length c2, .int .i64 s.length, .slice (some ⟨W.heap.size, 0, none⟩) s.length s.length, .slice A2 s.length c2, .func (.func 64) #[] #[.pointer (some ⟨Bs, 0, none⟩)], .int .i64 (x.1 : Int), .int .u32 (elt s x), undef, undef, undef, undef, undef, undef, undef, undef, undef, undef, undef, undef, undef, undef, undef, undef, undef, undef, undef, undef, undef, undef, undef, undef, undef, undef, undef, undef, undef, undef, undef, undef, undef, undef, undef, undef, undef, undef, undef, undef, undef, undef], defers := [] }) ?assign ?body ?done ?stop
      case assign =>
        intro l x U K hK
        gi_wp2
        exact hK
      case body =>
        rintro l pre x U ⟨⟨out, rest, Ar, cr, dmU, dqU⟩, hzU⟩ _
        have hs32 : W32 s := by rw [HSD.out]; exact W32_dg _
        have ht32 : W32 t := by rw [HTD.out]; exact W32_dg _
        obtain ⟨st1, st2, st3⟩ := dqU.step hs32 x
        have hx32 : 0 ≤ elt s x ∧ elt s x < 4294967296 := z34q hs32 x.1
        have hrl : rest.length ≤ t.length := by
          rw [dqU.re, HTD.out]
          refine dg_length_mono ?_
          have h1 := dqU.lt
          have h2 := HTD.out
          rw [h2, V_dg] at h1
          omega
        have hyw : W32 (elt s x :: rest) := W32_cons.2 ⟨hx32, by rw [dqU.re]; exact W32_dg _⟩
        obtain ⟨yy, hyy⟩ : ∃ yy, yy = elt s x :: rest := ⟨_, rfl⟩
        rw [← hyy] at st2 st3 hyw
        have hyl : yy.length = rest.length + 1 := by rw [hyy]; rfl
        obtain ⟨r1, hr1⟩ : ∃ r1, r1 = dg (V yy) := ⟨_, rfl⟩
        obtain ⟨k1, hk1⟩ := (trim_ev hyw (by omega)).rounds
        rw [← hr1] at hk1
        have HK1 : Hid (nat_trim.f k1 yy = some r1) := hk1
        have HYY : Hid (yy = elt s x :: rest) := hyy
        have HR1D : Hid (r1 = dg (V yy)) := hr1
        have HYL : Hid (yy.length = rest.length + 1) := hyl
        have HST : Hid (DQ s t (pre ++ [x]) (out.set x.1 ((V yy / V t : Nat) : Int)) (dg (V yy % V t))) := st3
        have HVY : Hid (V yy < 4294967296 * V t) := by rw [st2]; exact st1
        have HW : Aside0 (W32 yy ∧ W32 t ∧ W32 s) := ⟨hyw, ht32, hs32⟩
        have HDM : Hid (DM w W.heap.size Bo Br A3 c3 s.length s.length t out rest Ar cr U) := dmU
        have HDQ : Hid (DQ s t pre out rest) := dqU
        have HXX : Aside0 (0 ≤ elt s x ∧ elt s x < 4294967296) := ⟨hx32⟩
        have c3U := dmU.bx.cell
        have c8U := dmU.rx.cell
        clear hk1 hyy hr1 hyl st1 st2 st3 dmU dqU hyw ht32 hs32 hx32
        have info : (Try.prog.info? 96).map (fun i => (i.zero, i.size, i.bytes)) = some (some (.int .u32 0), 1, 4) := by kernel_rfl
        obtain ⟨i0, hi, hz0, hz1, hz2⟩ := info_parts info
        clear info
        have hbal : Aside0 (Below U.heap.size U (U.alloc (.cells #[.int .u32 (elt s x)] 96))) := ⟨(Below.refl _ U).alloc (Nat.le_refl _) _⟩
        have hCr : Aside0 (Kd.C (Kd.int .u32) (U.alloc (.cells #[.int .u32 (elt s x)] 96)) Ar rest.length rest) := ⟨Kd.C_below (R_C HDM.out.rR) hbal.out⟩
        have h1n : 1 ≤ 4 - 1 - 1 := by omega
        have hlsz : Aside0 (U.heap.size ≤ (U.alloc (.cells #[.int .u32 (elt s x)] 96)).heap.size) := ⟨by simp⟩
        have c8a : (U.alloc (.cells #[.int .u32 (elt s x)] 96)).cell? ⟨Br, 0, none⟩ = some (.slice Ar rest.length cr) := z15q hbal.out c8U
        by_cases ht1 : t.length = 1
        · have HT1 : Hid (t.length = 1) := ht1
          have e4 : ((t.length : Int) == 1) = true := by simp; omega
          have e5 : (t.length == 1) = true := by simp [ht1]
          have hl0 : 0 < t.length := by omega
          clear ht1
          obtain ⟨b0, n, q, m, k2, k3, r2, hb0, p1, p2, p3, p4, hk2, hk3, p5, p6, p7, p8, p9, p10, p11, p12⟩ := one_facts HT1.out HW.out.2.1 (by rw [HTD.out, V_dg]; exact HV.out) HVY.out HR1D.out
          have HSM : Hid (nat_Small.f k2 r1 = some (n, true)) := hk2
          have HOF : Hid (nat_Of.f k3 m = some r2) := hk3
          have HB0 : Hid (t = [b0]) := hb0
          have HST' : Hid (DQ s t (pre ++ [x]) (out.set x.1 q) r2) := by rw [p11, p12]; exact HST.out
          obtain ⟨ad, rfl, -⟩ := (R_C HDM.out.bR).2.2 (by omega)
          clear hk2 hk3 hb0 p11 p12 HST
          gi_wp2_with (first
            | (gi_at_builtin; refine wpListIn_append_C _ rfl _ _ 35 rfl .u32 U.heap.size 96 i0 (.int .u32 0) 4 Try.underlying35 hi hz0 hz1 hz2 rfl _ 1 [.int .u32 (elt s x)] rfl (World.ownsRow_lit (base := U.heap.size) (e := 96) (size := 1) U #[.int .u32 (elt s x)] 1 (Nat.le_refl _) (by decide) rfl) Ar rest.length cr rest rfl hCr.out (by unfold maxLen; omega) (by omega) hlsz.out ?_; intro v5 w5 hown5 hg5; obtain ⟨A5, c5, rfl, HA5⟩ := appended_facts HYY.out hown5 hg5; clear hown5 hg5 hCr hbal hlsz)
            | (refine ⟨trivial, ?_⟩; gi_at_call 50; (with_reducible refine (CallsIn.inRound l (callsIn_wide.2 (nat_trim.calls k1 A5 c5 yy r1 _ HA5.out.2.1 HA5.out.1 HK1.out))).mono ?_); rintro e w6 ⟨v6, rfl, hv6, hb6⟩; obtain ⟨A6, c6, rfl, hl6, hC6⟩ := Kd.R_reads hv6; have hb5 := HA5.out.2.2; have hD6 := (HDM.out.below (hb5.trans (hb6.mono hb5.size))); have c8w := hD6.rx.cell; have f8w := hD6.rx.frozen; have HD7 := Aside0.mk (hD6.setRest hv6 (fun k _ hk _ => by have h1 := HDM.out.hh; have h2 := HDM.out.sz; have h3 := hb5.size; omega) (by have h1 := HDM.out.hh; have h2 := HDM.out.sz; have h3 := hb5.size; omega)); have HB6 : Aside0 (Below U.heap.size U w6) := ⟨hb5.trans (hb6.mono hb5.size)⟩; have HS6 : Aside0 (w6.heap.size ≤ (w6.setCell ⟨Br, 0, none⟩ (.slice A6 r1.length c6)).heap.size) := ⟨by rw [World.size_setCell]; exact Nat.le_refl _⟩; clear hv6 hb6 hC6 hD6 c8a c8U c3U hb5 HA5; have c3w := HD7.out.bx.cell; have c8v := HD7.out.rx.cell; have c7v := HD7.out.ox.cell)
            | (refine ⟨trivial, ?_⟩; gi_at_call 51; (with_reducible refine (CallsIn.inRound l (callsIn_wide.2 (nat_Small.calls k2 A6 c6 r1 n true _ (R_C HD7.out.rR) (Kd.R_reads' HD7.out.rR).2.1 HSM.out))).mono ?_); rintro e w7 ⟨rfl, hb7⟩; have HB7 := Aside0.mk hb7; have HD8 := Aside0.mk (HD7.out.below hb7); clear hb7; have c3y := HD8.out.bx.cell; have c7y := HD8.out.ox.cell; have c8y := HD8.out.rx.cell; have f8y := HD8.out.rx.frozen; have cby : w7.cell? ad = some (.int .u32 b0) := C_cell0 (R_C HD8.out.bR) HB0.out))
          have hKF : Aside0 (KeepsFrom W4.heap.size U w7 ∧ KeptB W.heap.size Bs U w7 ∧ Bs < W4.heap.size ∧ W4.heap.size ≤ U.heap.size ∧ Bs = Br + 1) := ⟨((KeepsFrom.below HB6.out).trans ((KeepsOthers.setCell _ _ _).from _)).trans (KeepsFrom.below HB7.out), (((KeptB.below HB6.out (by have h1 := HDM.out.hh; have h2 := HDM.out.sz; omega) (by omega)).t (KeptB.set _ _ _ (by have h1 := HDM.out.hh; simp; omega) (by simp; omega))).t (KeptB.below HB7.out (by have h1 := HD7.out.hh; have h2 := HD7.out.sz; omega) (by have h1 := HB6.out.size; rw [World.size_setCell]; omega))), hz5, hzU, hBs.symm⟩
          have HD9 := Aside0.mk (HD8.out.below (Below.refl _ w7).drew)
          have HD10 := Aside0.mk (HD9.out.setOut x.1 q)
          have hxn : x.1 < s.length := x.2
          have hxi : ((x.1 : Nat) : Int) < (s.length : Int) := by omega
          have hc := Kd.R_celln 0 HD9.out.oR (x.1 : Int) (by omega) (by have := x.2; omega)
          have hcx : w7.drew.cell? ⟨W.heap.size, x.1, none⟩ = some (.int .u32 (rdOf 0 out (x.1 : Int))) := hc.1
          have hfx : w7.drew.frozen? ⟨W.heap.size, x.1, none⟩ = false := hc.2
          have hS0 : w7.drew.cell? ⟨Bo, 0, none⟩ = some (.slice (some ⟨W.heap.size, 0, none⟩) s.length s.length) ∧ w7.drew.cell? ⟨w.heap.size, 0, none⟩ = some (.slice (some ad) t.length c3) ∧ w7.drew.cell? ad = some (.int .u32 b0) := ⟨c7y, c3y, cby⟩
          have hS10 : (w7.drew.setCell ⟨W.heap.size, x.1, none⟩ (.int .u32 q)).cell? ⟨Bo, 0, none⟩ = some (.slice (some ⟨W.heap.size, 0, none⟩) s.length s.length) ∧ (w7.drew.setCell ⟨W.heap.size, x.1, none⟩ (.int .u32 q)).cell? ⟨w.heap.size, 0, none⟩ = some (.slice (some ad) t.length c3) ∧ (w7.drew.setCell ⟨W.heap.size, x.1, none⟩ (.int .u32 q)).cell? ad = some (.int .u32 b0) := ⟨HD10.out.ox.cell, HD10.out.bx.cell, C_cell0 (R_C HD10.out.bR) HB0.out⟩
          clear HR0 HC0 HR1 HC1 HL hw0 hw1 HSD HTD HV HK1 HYY HYL HVY HR1D HDM HDQ HXX HW hBW hbS hBW' dm hz4 hwW hz5 G1 G2 G3 G4 g4 hmk e1 e2 e3 e4 e5 HS HT hb0 hc c3w c7v c8v c8w f8w
          have q1 : ¬ b0 = 0 := by omega
          have q5 : IntKind.u64.wrap b0 = b0 := z22q (by omega) (by omega)
          have q6 : IntKind.u64.wrap q = q := z22q (by omega) (by omega)
          have q7 : IntKind.u32.wrap q = q := by rw [IntKind.wrap_u32]; omega
          have q8 : IntKind.u64.wrap m = m := z22q (by omega) (by omega)
          have q2 : (b0 == 0) = false := by simp; omega
          have q3 : Int.tdiv n b0 = q := by rw [Int.tdiv_eq_ediv_of_nonneg p3]; exact p5
          have q4 : Int.tmod n b0 = m := by rw [Int.tmod_eq_emod_of_nonneg p3]; exact p6
          refine wpIn_region_held (fun w' => w'.cell? ⟨Bo, 0, none⟩ = some (.slice (some ⟨W.heap.size, 0, none⟩) s.length s.length) ∧ w'.cell? ⟨w.heap.size, 0, none⟩ = some (.slice (some ad) t.length c3) ∧ w'.cell? ad = some (.int .u32 b0)) hmx ?_
          show wpAnyHIn _ _ _ _ _ _ _ 11 #[false, false, false, false, false, false, false, false, false, false, false] _ _
          refine z12q (i := 0) (v := .slice (some ⟨W.heap.size, 0, none⟩) s.length s.length) (dst := 40) (by kernel_rfl) rfl rfl (by kernel_rfl) (by kernel_rfl) (by kernel_rfl) (fun _ _ _ h => h) ⟨Or.inl ⟨by rfl, fun w' hw' => ?_⟩, fun _ => rfl⟩ hS0 ?_
          · (obtain ⟨hw1, hw2, hw3⟩ := hw'; go_simp)
          simp only [sT_]
          refine z12q (i := 1) (v := .int .i64 (x.1 : Int)) (dst := 41) (by kernel_rfl) rfl rfl (by kernel_rfl) (by kernel_rfl) (by kernel_rfl) (fun _ _ _ h => h) ⟨Or.inl ⟨by rfl, fun w' hw' => ?_⟩, fun _ => rfl⟩ hS0 ?_
          · go_simp
          simp only [sT_]
          refine z12q (i := 2) (v := .int .u64 n) (dst := 42) (by kernel_rfl) rfl rfl (by kernel_rfl) (by kernel_rfl) (by kernel_rfl) (fun _ _ _ h => h) ⟨Or.inl ⟨by rfl, fun w' hw' => ?_⟩, fun _ => rfl⟩ hS0 ?_
          · go_simp
          simp only [sT_]
          refine z12q (i := 3) (v := .slice (some ad) t.length c3) (dst := 43) (by kernel_rfl) rfl rfl (by kernel_rfl) (by kernel_rfl) (by kernel_rfl) (fun _ _ _ h => h) ⟨Or.inl ⟨by rfl, fun w' hw' => ?_⟩, fun _ => rfl⟩ hS0 ?_
          · (obtain ⟨hw1, hw2, hw3⟩ := hw'; go_simp)
          simp only [sT_]
          refine z12q (i := 4) (v := .pointer (some ad)) (dst := 44) (by kernel_rfl) rfl rfl (by kernel_rfl) (by kernel_rfl) (by kernel_rfl) (fun _ _ _ h => h) ⟨Or.inl ⟨by rfl, fun w' hw' => ?_⟩, fun _ => rfl⟩ hS0 ?_
          · go_simp
          simp only [sT_]
          refine z12q (i := 5) (v := .int .u32 b0) (dst := 45) (by kernel_rfl) rfl rfl (by kernel_rfl) (by kernel_rfl) (by kernel_rfl) (fun _ _ _ h => h) ⟨Or.inl ⟨by rfl, fun w' hw' => ?_⟩, fun _ => rfl⟩ hS0 ?_
          · (obtain ⟨hw1, hw2, hw3⟩ := hw'; go_simp)
          simp only [sT_]
          refine z12q (i := 6) (v := .int .u64 b0) (dst := 46) (by kernel_rfl) rfl rfl (by kernel_rfl) (by kernel_rfl) (by kernel_rfl) (fun _ _ _ h => h) ⟨Or.inl ⟨by rfl, fun w' hw' => ?_⟩, fun _ => rfl⟩ hS0 ?_
          · go_simp
          simp only [sT_]
          refine z12q (i := 7) (v := .int .u64 q) (dst := 47) (by kernel_rfl) rfl rfl (by kernel_rfl) (by kernel_rfl) (by kernel_rfl) (fun _ _ _ h => h) ⟨Or.inl ⟨by rfl, fun w' hw' => ?_⟩, fun _ => rfl⟩ hS0 ?_
          · go_simp
          simp only [sT_]
          refine z12q (i := 8) (v := .int .u32 q) (dst := 48) (by kernel_rfl) rfl rfl (by kernel_rfl) (by kernel_rfl) (by kernel_rfl) (fun _ _ _ h => h) ⟨Or.inl ⟨by rfl, fun w' hw' => ?_⟩, fun _ => rfl⟩ hS0 ?_
          · go_simp
          simp only [sT_]
          refine z12q (i := 9) (v := .pointer (some ⟨W.heap.size, x.1, none⟩)) (dst := 49) (by kernel_rfl) rfl rfl (by kernel_rfl) (by kernel_rfl) (by kernel_rfl) (fun _ _ _ h => h) ⟨Or.inl ⟨by rfl, fun w' hw' => ?_⟩, fun _ => rfl⟩ hS0 ?_
          · go_simp
          simp only [sT_]
          refine z20q (i := 10) (by kernel_rfl) rfl (fun K hK => ?_)
          go_simp
          refine hK _ _ hS10 ?_
          clear hK K
          simp only [sT_]
          refine wpAnyHIn_done (by kernel_rfl) ?_
          have hKF2 : Aside0 (KeepsFrom W4.heap.size U (w7.drew.setCell ⟨W.heap.size, x.1, none⟩ (.int .u32 q)) ∧ KeptB W.heap.size Bs U (w7.drew.setCell ⟨W.heap.size, x.1, none⟩ (.int .u32 q))) := ⟨(hKF.out.1.trans (KeepsFrom.below (Below.refl _ w7).drew)).trans ((KeepsOthers.setCell _ _ _).from _), (hKF.out.2.1.t (KeptB.below (Below.refl _ w7).drew (by have h1 := HD8.out.hh; have h2 := HD8.out.sz; omega) (by have h1 := hKF.out.1.1; have h2 := hKF.out.2.2; omega))).t (KeptB.set _ _ _ (by simp) (by have h1 := HD8.out.hh; have h2 := hKF.out.2.2; simp; omega))⟩
          have c3z := HD10.out.bx.cell
          have c8z := HD10.out.rx.cell
          have f8z := HD10.out.rx.frozen
          have cbz : (w7.drew.setCell ⟨W.heap.size, x.1, none⟩ (.int .u32 q)).cell? ad = some (.int .u32 b0) := C_cell0 (R_C HD10.out.bR) HB0.out
          have hzB := hKF.out.2.2
          clear hS0 hS10 hcx hfx c3y c7y c8y f8y cby hKF HD9 HD8 HD7 HB6 HB7 hxi
          generalize hV1 : (w7.drew.setCell ⟨W.heap.size, x.1, none⟩ (.int .u32 q)) = V1 at *
          have hV2 : (w7.setCell ⟨W.heap.size, x.1, none⟩ (.int .u32 q)).drew = V1 := hV1
          try rw [hV2]
          clear hV1 hV2
          gi_wp2
          refine ⟨trivial, ?_⟩
          gi_at_call 38
          (with_reducible refine (CallsIn.inRound l (callsIn_wide.2 (nat_Of.calls k3 m r2 _ HOF.out))).mono ?_)
          rintro e w11 ⟨v11, rfl, hv11, hb11⟩
          obtain ⟨A11, c11, rfl, hl11, hC11⟩ := Kd.R_reads hv11
          have HV11 := Aside0.mk hv11
          have HB11 := Aside0.mk hb11
          have HD11 := Aside0.mk (HD10.out.below hb11)
          clear hv11 hb11 hC11
          have c8u := HD11.out.rx.cell
          have f8u := HD11.out.rx.frozen
          dsimp only
          gi_wp2
          have hh := HD11.out.hh
          have hs7 := HD10.out.sz
          have HD12 := Aside0.mk (HD11.out.setRest HV11.out (fun k _ hk _ => by omega) (by omega))
          have hzV : U.heap.size ≤ V1.heap.size := hKF2.out.1.1
          have hz8 : V1.heap.size ≤ w11.heap.size := HB11.out.size
          refine ⟨(hKF2.out.1.trans (KeepsFrom.below HB11.out)).trans ((KeepsOthers.setCell _ _ _).from _), ((hKF2.out.2.t (KeptB.below HB11.out (by omega) (by omega))).t (KeptB.set _ _ _ (by simp; omega) (by simp; omega))), ⟨⟨_, _, _, _, HD12.out, HST'.out⟩, ?_⟩⟩
          rw [World.size_setCell]
          omega
        · have e4 : ((t.length : Int) == 1) = false := by simp; omega
          have e5 : (t.length == 1) = false := by simp [ht1]
          gi_wp2_with (first
            | (gi_at_builtin; refine wpListIn_append_C _ rfl _ _ 35 rfl .u32 U.heap.size 96 i0 (.int .u32 0) 4 Try.underlying35 hi hz0 hz1 hz2 rfl _ 1 [.int .u32 (elt s x)] rfl (World.ownsRow_lit (base := U.heap.size) (e := 96) (size := 1) U #[.int .u32 (elt s x)] 1 (Nat.le_refl _) (by decide) rfl) Ar rest.length cr rest rfl hCr.out (by unfold maxLen; omega) (by omega) hlsz.out ?_; intro v5 w5 hown5 hg5; obtain ⟨A5, c5, rfl, HA5⟩ := appended_facts HYY.out hown5 hg5; clear hown5 hg5 hCr hbal hlsz)
            | (refine ⟨trivial, ?_⟩; gi_at_call 50; (with_reducible refine (CallsIn.inRound l (callsIn_wide.2 (nat_trim.calls k1 A5 c5 yy r1 _ HA5.out.2.1 HA5.out.1 HK1.out))).mono ?_); rintro e w6 ⟨v6, rfl, hv6, hb6⟩; obtain ⟨A6, c6, rfl, hl6, hC6⟩ := Kd.R_reads hv6; have hb5 := HA5.out.2.2; have hD6 := (HDM.out.below (hb5.trans (hb6.mono hb5.size))); have c8w := hD6.rx.cell; have f8w := hD6.rx.frozen; have HD7 := Aside0.mk (hD6.setRest hv6 (fun k _ hk _ => by have h1 := HDM.out.hh; have h2 := HDM.out.sz; have h3 := hb5.size; omega) (by have h1 := HDM.out.hh; have h2 := HDM.out.sz; have h3 := hb5.size; omega)); have HB6 : Aside0 (Below U.heap.size U w6) := ⟨hb5.trans (hb6.mono hb5.size)⟩; have HS6 : Aside0 (w6.heap.size ≤ (w6.setCell ⟨Br, 0, none⟩ (.slice A6 r1.length c6)).heap.size) := ⟨by rw [World.size_setCell]; exact Nat.le_refl _⟩; clear hv6 hb6 hC6 hD6 c8a c8U c3U hb5 HA5; have c3w := HD7.out.bx.cell; have c8v := HD7.out.rx.cell; have c7v := HD7.out.ox.cell))
          obtain ⟨k2, hk2⟩ := (digit_ev HW.out.2.1 (by omega) (V yy) HVY.out).rounds
          rw [← HR1D.out] at hk2
          obtain ⟨q, hq⟩ : ∃ q : Int, q = ((V yy / V t : Nat) : Int) := ⟨_, rfl⟩
          obtain ⟨r2, hr2⟩ : ∃ r2, r2 = dg (V yy % V t) := ⟨_, rfl⟩
          rw [← hq, ← hr2] at hk2
          have HST' : Hid (DQ s t (pre ++ [x]) (out.set x.1 q) r2) := by rw [hq, hr2]; exact HST.out
          have HK2 : Hid (nat_digit.f k2 r1 t = some (q, r2)) := hk2
          clear hk2 hq hr2 HST
          have hKF : Aside0 (KeepsFrom W4.heap.size U (w6.setCell ⟨Br, 0, none⟩ (.slice A6 r1.length c6)) ∧ KeptB W.heap.size Bs U (w6.setCell ⟨Br, 0, none⟩ (.slice A6 r1.length c6))) := ⟨(KeepsFrom.below HB6.out).trans ((KeepsOthers.setCell _ _ _).from _), (KeptB.below HB6.out (by have h1 := HDM.out.hh; have h2 := HDM.out.sz; omega) (by omega)).t (KeptB.set _ _ _ (by have h1 := HDM.out.hh; simp; omega) (by simp; omega))⟩
          generalize (w6.setCell ⟨Br, 0, none⟩ (.slice A6 r1.length c6)) = V0 at *
          have hdr : Aside0 (Kd.R (Kd.int .u32) 96 V0.drew (w.heap.size + 1) (fun k => k ≠ W.heap.size) (.slice A6 r1.length c6) r1 ∧ Kd.C (Kd.int .u32) V0.drew A3 t.length t ∧ t.length ≤ c3 ∧ w.heap.size + 1 ≤ V0.drew.heap.size) := ⟨Kd.R_below HD7.out.rR (Below.refl _ _).drew, Kd.C_below (R_C HD7.out.bR) (Below.refl _ _).drew, hl3, by have h1 := HD7.out.hh; have h2 := HD7.out.sz; show w.heap.size + 1 ≤ V0.heap.size; omega⟩
          have hxn : x.1 < s.length := x.2
          have hzB : Aside0 (Bs < W4.heap.size ∧ W4.heap.size ≤ U.heap.size ∧ Bs = Br + 1) := ⟨hz5, hzU, hBs.symm⟩
          have hxi : ((x.1 : Nat) : Int) < (s.length : Int) := by omega
          clear HR0 HC0 HR1 HC1 HL hw0 hw1 HSD HTD HV HK1 HYY HYL HVY HR1D HDM HDQ HXX HW hBW hbS hBW' dm hz4 hwW hz5 G1 G2 G3 G4 g4 hmk e1 e2 e3 e4 e5 HS HT hb0
          have hS0 : V0.drew.cell? ⟨Bo, 0, none⟩ = some (.slice (some ⟨W.heap.size, 0, none⟩) s.length s.length) ∧ V0.drew.cell? ⟨w.heap.size, 0, none⟩ = some (.slice A3 t.length c3) := ⟨c7v, c3w⟩
          refine wpIn_region_held (fun w' => w'.cell? ⟨Bo, 0, none⟩ = some (.slice (some ⟨W.heap.size, 0, none⟩) s.length s.length) ∧ w'.cell? ⟨w.heap.size, 0, none⟩ = some (.slice A3 t.length c3)) hmx ?_
          show wpAnyHIn _ _ _ _ _ _ _ 11 #[false, false, false, false, false, false, false, false, false, false, false] _ _
          refine z12q (i := 0) (v := .slice (some ⟨W.heap.size, 0, none⟩) s.length s.length) (dst := 58) (by kernel_rfl) rfl rfl (by kernel_rfl) (by kernel_rfl) (by kernel_rfl) (fun _ _ _ h => h) ⟨Or.inl ⟨by rfl, fun w' hw' => ?_⟩, fun _ => rfl⟩ hS0 ?_
          · (obtain ⟨hw1, hw2⟩ := hw'; go_simp)
          simp only [sT_]
          refine z12q (i := 1) (v := .int .i64 (x.1 : Int)) (dst := 59) (by kernel_rfl) rfl rfl (by kernel_rfl) (by kernel_rfl) (by kernel_rfl) (fun _ _ _ h => h) ⟨Or.inl ⟨by rfl, fun w' hw' => ?_⟩, fun _ => rfl⟩ hS0 ?_
          · go_simp
          simp only [sT_]
          refine z12q (i := 3) (v := .slice A3 t.length c3) (dst := 61) (by kernel_rfl) rfl rfl (by kernel_rfl) (by kernel_rfl) (by kernel_rfl) (fun _ _ _ h => h) ⟨Or.inl ⟨by rfl, fun w' hw' => ?_⟩, fun _ => rfl⟩ hS0 ?_
          · (obtain ⟨hw1, hw2⟩ := hw'; go_simp)
          simp only [sT_]
          refine z20q (i := 2) (by kernel_rfl) rfl (fun K hK => ?_)
          go_simp
          refine hK _ _ hS0 ?_
          clear hK K
          simp only [sT_]
          refine z20q (i := 4) (by kernel_rfl) rfl (fun K hK => ?_)
          go_simp
          gi_wp2_with (refine ⟨trivial, ?_⟩; gi_at_call 60; (with_reducible refine (CallsIn.inRound l (callsIn_wide.2 (nat_digit.own k2 A6 c6 r1 A3 c3 t q r2 _ (w.heap.size + 1) (fun k => k ≠ W.heap.size) hdr.out.2.2.2 hdr.out.1 hdr.out.2.1 hdr.out.2.2.1 HK2.out))).mono ?_); rintro e w8 ⟨v8, rfl, hv8, hb8⟩; obtain ⟨A8, c8, rfl, hl8, hC8⟩ := Kd.R_reads hv8; have HB8 : Aside0 (Below V0.heap.size V0 w8) := ⟨(Below.refl _ V0).drew.trans hb8⟩; have hD8 := HD7.out.below HB8.out; have hc := Kd.R_celln 0 hD8.oR (x.1 : Int) (by omega) (by have := x.2; omega); have hcx : w8.cell? ⟨W.heap.size, x.1, none⟩ = some (.int .u32 (rdOf 0 out (x.1 : Int))) := hc.1; have hfx : w8.frozen? ⟨W.heap.size, x.1, none⟩ = false := hc.2; have c7x := hD8.ox.cell; have c3x := hD8.bx.cell; have HV8 := Aside0.mk hv8; have HD8 := Aside0.mk hD8; clear hv8 hb8 hD8 hc hC8 c3w c7v c8v c8w f8w)
          refine hK _ _ ⟨c7x, c3x⟩ ?_
          clear hK K
          simp only [sT_]
          have hS1 : w8.cell? ⟨Bo, 0, none⟩ = some (.slice (some ⟨W.heap.size, 0, none⟩) s.length s.length) ∧ w8.cell? ⟨w.heap.size, 0, none⟩ = some (.slice A3 t.length c3) := ⟨c7x, c3x⟩
          clear hS0 hdr c7x c3x
          refine z12q (i := 5) (v := .tuple #[.int .u32 q, .slice A8 r2.length c8]) (dst := 57) (by kernel_rfl) rfl rfl (by kernel_rfl) (by kernel_rfl) (by kernel_rfl) (fun _ _ _ h => h) ⟨Or.inl ⟨by rfl, fun w' hw' => ?_⟩, fun _ => rfl⟩ hS1 ?_
          · go_simp
          simp only [sT_]
          refine z12q (i := 6) (v := .int .u32 q) (dst := 63) (by kernel_rfl) rfl rfl (by kernel_rfl) (by kernel_rfl) (by kernel_rfl) (fun _ _ _ h => h) ⟨Or.inl ⟨by rfl, fun w' hw' => ?_⟩, fun _ => rfl⟩ hS1 ?_
          · go_simp
          simp only [sT_]
          refine z12q (i := 7) (v := .slice A8 r2.length c8) (dst := 64) (by kernel_rfl) rfl rfl (by kernel_rfl) (by kernel_rfl) (by kernel_rfl) (fun _ _ _ h => h) ⟨Or.inl ⟨by rfl, fun w' hw' => ?_⟩, fun _ => rfl⟩ hS1 ?_
          · go_simp
          simp only [sT_]
          refine z12q (i := 8) (v := .pointer (some ⟨W.heap.size, x.1, none⟩)) (dst := 65) (by kernel_rfl) rfl rfl (by kernel_rfl) (by kernel_rfl) (by kernel_rfl) (fun _ _ _ h => h) ⟨Or.inl ⟨by rfl, fun w' hw' => ?_⟩, fun _ => rfl⟩ hS1 ?_
          · go_simp
          simp only [sT_]
          have HD9 := Aside0.mk (HD8.out.setOut x.1 q)
          have HD10 := Aside0.mk (HD9.out.setRest (Kd.R_far HV8.out (fun k hk => by rcases hk with hk | hk; exact hk; (have h1 := HD7.out.hh; have h2 := HD7.out.sz; have h3 : V0.heap.size ≤ k := hk; show k ≠ W.heap.size; omega)) _) (fun k hk _ _ => by rcases hk with hk | hk; exact hk; (have h1 := HD7.out.hh; have h2 := HD7.out.sz; have h3 : V0.heap.size ≤ k := hk; omega)) (Nat.le_refl _))
          have hS9 : (w8.setCell ⟨W.heap.size, x.1, none⟩ (.int .u32 q)).cell? ⟨Bo, 0, none⟩ = some (.slice (some ⟨W.heap.size, 0, none⟩) s.length s.length) ∧ (w8.setCell ⟨W.heap.size, x.1, none⟩ (.int .u32 q)).cell? ⟨w.heap.size, 0, none⟩ = some (.slice A3 t.length c3) := ⟨HD9.out.ox.cell, HD9.out.bx.cell⟩
          have hS10 : ((w8.setCell ⟨W.heap.size, x.1, none⟩ (.int .u32 q)).setCell ⟨Br, 0, none⟩ (.slice A8 r2.length c8)).cell? ⟨Bo, 0, none⟩ = some (.slice (some ⟨W.heap.size, 0, none⟩) s.length s.length) ∧ ((w8.setCell ⟨W.heap.size, x.1, none⟩ (.int .u32 q)).setCell ⟨Br, 0, none⟩ (.slice A8 r2.length c8)).cell? ⟨w.heap.size, 0, none⟩ = some (.slice A3 t.length c3) := ⟨HD10.out.ox.cell, HD10.out.bx.cell⟩
          refine z20q (i := 9) (by kernel_rfl) rfl (fun K hK => ?_)
          go_simp
          refine hK _ _ hS9 ?_
          clear hK K
          simp only [sT_]
          clear hcx hfx hS1
          have c10 := HD9.out.rx.cell
          have f10 := HD9.out.rx.frozen
          refine z20q (i := 10) (by kernel_rfl) rfl (fun K hK => ?_)
          go_simp
          refine hK _ _ hS10 ?_
          clear hK K
          simp only [sT_]
          refine wpAnyHIn_done (by kernel_rfl) ?_
          gi_wp2
          have hh := HD7.out.hh
          have hs7 := HD7.out.sz
          have hzV : U.heap.size ≤ V0.heap.size := hKF.out.1.1
          have hzz := hzB.out
          have hz8 : V0.heap.size ≤ w8.heap.size := HB8.out.size
          refine ⟨((hKF.out.1.trans (KeepsFrom.below HB8.out)).trans ((KeepsOthers.setCell _ _ _).from _)).trans ((KeepsOthers.setCell _ _ _).from _), ((hKF.out.2.t (KeptB.below HB8.out (by omega) (by omega))).t (KeptB.set _ _ _ (by simp) (by simp; omega))).t (KeptB.set _ _ _ (by simp; omega) (by simp; omega)), ⟨⟨_, _, _, _, HD10.out, HST'.out⟩, ?_⟩⟩
          rw [World.size_setCell, World.size_setCell]
          omega
      case done =>
        rintro D ys U hD rfl ⟨⟨out, rest, Ar, cr, dmU, dqU⟩, hzU⟩ hK
        obtain ⟨kk, hkk⟩ := (trim_ev dqU.wo (by rw [dqU.len]; omega)).rounds
        have HTR : Hid (∀ W', Kd.C (Kd.int .u32) W' (some ⟨W.heap.size, 0, none⟩) s.length out → Calls Try.prog 50 #[.slice (some ⟨W.heap.size, 0, none⟩) s.length s.length] W' fun e w' => ∃ v0_ : Value, e = .returned (v0_) ∧ Kd.R (Kd.int .u32) 96 w' W'.heap.size (fun _ => True) v0_ (dg (V out)) ∧ Below W'.heap.size W' w') := by
          intro W' hC
          have := nat_trim.calls kk (some ⟨W.heap.size, 0, none⟩) s.length out (dg (V out)) W' (by rw [dqU.len]; exact hC) (by rw [dqU.len]; exact Nat.le_refl _) hkk
          rw [dqU.len] at this
          exact this
        have c7 := dmU.ox.cell
        have c8 := dmU.rx.cell
        have HDM : Hid (DM w W.heap.size Bo Br A3 c3 s.length s.length t out rest Ar cr U) := dmU
        have HDQ : Hid (DQ s t (bwd s.length s.length) out rest) := dqU
        have HK : Hid (U.heap[D]? = some (.deferred (some []))) := hK
        have hcU : Aside0 (Kd.C (Kd.int .u32) U.drew (some ⟨W.heap.size, 0, none⟩) s.length out) := ⟨by
          have := R_C dmU.oR
          rw [dqU.len] at this
          exact Kd.C_below this (Below.refl _ U).drew⟩
        clear dmU dqU hK hkk
        gi_wp2
        gi_region_with_o (refine ⟨trivial, ?_⟩; gi_at_call 50; (with_reducible refine (callsIn_wide.2 (HTR.out _ hcU.out)).mono ?_); rintro e w5 ⟨v5, rfl, hv5, hb5⟩; have c9 := z15q hb5 (show U.drew.cell? _ = _ from c8); have HV5 := Aside0.mk hv5; have HB5 : Aside0 (Below U.heap.size U w5) := ⟨((Below.refl _ U).drew).trans hb5⟩; have HK5 : Hid (w5.heap[D]? = some (.deferred (some []))) := z09q (show U.drew.heap[D]? = _ from HK.out) hb5; have HDM5 : Hid (DM w W.heap.size Bo Br A3 c3 s.length s.length t out rest Ar cr w5) := HDM.out.below (((Below.refl _ U).drew).trans hb5); clear hv5 hb5)
        all_goals
          gi_wp2
          refine ⟨by simp, .inl ⟨_, _, rfl, run_takeDeferred HK5.out, ?_⟩⟩
          have hfin := HDQ.out.fin
          rw [show V s = V l0 from by rw [HSD.out, V_dg], show V t = V l1 from by rw [HTD.out, V_dg]] at hfin
          have hrl := Kd.R_lt HDM.out.rR
          have hb6 : Below U.heap.size U w5 := HB5.out
          have hr1 : Kd.R (Kd.int .u32) 96 w5 w.heap.size (fun k_ => some k_ ≠ (Value.slice Ar rest.length cr).ownBlock) v5 (dg (V l0 / V l1)) := by
            rw [← hfin.1]
            exact Kd.R_lower (Kd.R_mono (Kd.R_bound HV5.out) (fun k hk e' => by have h1 := hrl k e'.symm; have h2 := hk.2.1; have h3 : U.heap.size ≤ k := h2; omega)) (Nat.le_trans HDM.out.bel.size (Nat.le_refl _))
          have hr2 : Kd.R (Kd.int .u32) 96 w5 w.heap.size (fun k_ => some k_ ≠ v5.ownBlock) (.slice Ar rest.length cr) (dg (V l0 % V l1)) := by
            rw [← hfin.2, ← HDQ.out.re]
            refine Kd.R_lower (base := w.heap.size + 1) (Kd.R_mono (Kd.R_below (Kd.R_bound HDM.out.rR) hb6) (fun k hk e' => ?_)) (by omega)
            obtain ⟨inner, ho⟩ := Kd.R_own HV5.out
            have h1 := own_base ho k e'.symm
            have h2 := hk.2.2.1
            have h3 : U.heap.size ≤ k := h1
            omega
          have hkp : ∀ r, some D = some r → ∃ o : Obj, w5.heap[r]? = some o ∧ o.isCells = false := fun r e => by cases e; exact ⟨_, HK5.out, rfl⟩
          exact ⟨.tuple #[v5, .slice Ar rest.length cr, .int .i64 0], by simp [results, Try.f49, go_sem], v5, _, rfl, R_keptB hr1 (grownBy_putObj' w5 D _) hkp, R_keptB hr2 (grownBy_putObj' w5 D _) hkp, HDM5.out.bel.trans (belowK_b (w := w) (Nat.le_refl _) w5 D _ _ (by have := G3.size; omega) HK5.out rfl rfl)⟩
      case stop =>
        rintro D c pre V _ _ h _
        exact h.elim
end
end Go.Proofs.Ytgnffmbaecabnaa.M
