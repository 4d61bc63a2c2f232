-- Printed by a program of this session's own (wip/myprint.py), out of the kit's print with functions given by hand. Lean checks it.
import Derived.Test.YtgnffmbaecabnaaM0
import Derived.Test.YtgnffmbaecabnaaM2
import Derived.Test.YtgnffmbaecabnaaM8
namespace Go.Proofs.Ytgnffmbaecabnaa.M
open Go.RowKit Go.Shelf Go.Proofs.YtgnffmbaecabnaaW.PrintWords Go.Proofs.YtgnffmbaecabnaaW.PrintLast Go.Proofs.YtgnffmbaecabnaaW.PrintMore
attribute [local go_sem] z33q z31q max_two min_two z28q z27q z32q z30q   -- for this text's walks alone
set_option linter.unusedVariables false
set_option linter.unusedSimpArgs false
set_option maxRecDepth 100000
section
attribute [local go_sem] Oper.semAt_some
def Tkeep (t : TypeId) (W W' : World) : Prop := ∀ (k : Nat) (cs : Array Value), W.heap[k]? = some (.cells cs t (0, 0)) → W'.heap[k]? = some (.cells cs t (0, 0))
theorem Tkeep.refl (t : TypeId) (W : World) : Tkeep t W W := fun _ _ h => h
theorem Tkeep.trans {t : TypeId} {A B C : World} (h : Tkeep t A B) (k : Tkeep t B C) : Tkeep t A C := fun i cs hi => k i cs (h i cs hi)
theorem Tkeep.below {t : TypeId} {W W' : World} (h : Below W.heap.size W W') : Tkeep t W W' := fun k cs hk => (h.block k (Array.getElem?_eq_some_iff.1 hk).1).trans hk
theorem Tkeep.set {t t' : TypeId} {W : World} {p : Addr} {cs' : Array Value} {fr : Nat × Nat} (hp : W.heap[p.block]? = some (.cells cs' t' fr)) (hne : t' ≠ t) (u : Value) : Tkeep t W (W.setCell p u) := fun k cs hk => by
  have : k ≠ p.block := fun e => by rw [e, hp] at hk; simp at hk; exact hne hk.2.1
  exact (Below.heap_setCell W p u k this).trans hk
theorem Tkeep.put {t : TypeId} {W : World} {l : Nat} {o o' : Obj} (h : W.heap[l]? = some o) (ho : o.isCells = false) : Tkeep t W (W.putObj l o') := fun k cs hk => by
  have : l ≠ k := fun e => by rw [← e, h] at hk; cases hk; cases ho
  exact (World.putObj_heap_other (Ne.symm this)).trans hk
theorem AbidesFrom.below {β : Type} {B : Nat} {J : β → World → Prop} (hJ : AbidesFrom B J) {s : β} {W W' : World} (h : J s W) (hb : Below W.heap.size W W') : J s W' :=
  hJ s W W' none h ⟨hb.os, hb.tape, hb.output, hb.size, fun k hk _ => hb.block k hk⟩ (fun r e => by cases e)
def KpE (n₀ Bs : Nat) (W W' : World) : Prop := KeptB n₀ Bs W W' ∧ Tkeep 46 W W'
theorem KpE.t {n₀ Bs : Nat} {A B C : World} (h : KpE n₀ Bs A B) (k : KpE n₀ Bs B C) : KpE n₀ Bs A C := ⟨h.1.t k.1, h.2.trans k.2⟩
theorem KpE.r (n₀ Bs : Nat) (A : World) : KpE n₀ Bs A A := ⟨KeptB.r _ _ _, Tkeep.refl _ _⟩
theorem KpE.b {n B : Nat} {w : World} (hn : n ≤ w.heap.size) (hB : B < w.heap.size) (W : World) (l : Nat) (o o' : Obj) (hl : w.heap.size ≤ l) (h : W.heap[l]? = some o) (h1 : o.isCells = false) (h2 : o.isWalk = false) : KpE n B W (W.putObj l o') :=
  ⟨KeptB.b hn hB W l o o' hl h h1 h2, Tkeep.put h h1⟩
theorem KpE.below {n B : Nat} {W W' : World} (h : Below W.heap.size W W') (h1 : n ≤ W.heap.size) (h2 : B < W.heap.size) : KpE n B W W' := ⟨KeptB.below h h1 h2, Tkeep.below h⟩
def sumN : List S46 → Nat
  | [] => 0
  | x :: l => x.f1.toNat + sumN l
theorem sumN_append (a b : List S46) : sumN (a ++ b) = sumN a + sumN b := by
  induction a with
  | nil => simp [sumN]
  | cons x a ih => simp only [List.cons_append, sumN, ih]; omega
theorem sumN_take (l : List S46) {i : Nat} (h : i < l.length) : sumN (l.take (i + 1)) = sumN (l.take i) + (rd_T46 l (i : Int)).f1.toNat := by
  rw [List.take_succ_eq_append_getElem h, sumN_append]
  have : rd_T46 l (i : Int) = l[i] := by simp [rd_T46, List.getD, h]
  rw [this]
  simp [sumN]
theorem sumN_le_take (l : List S46) {i : Nat} : sumN (l.take i) ≤ sumN l := by
  have h := sumN_append (l.take i) (l.drop i)
  rw [List.take_append_drop] at h
  omega
theorem sumN_bound {l : List S46} (h : l.all itemB = true) : sumN l ≤ 1024 * l.length := by
  induction l with
  | nil => simp [sumN]
  | cons x l ih =>
    rw [List.all_cons, Bool.and_eq_true] at h
    have h1 := ih h.2
    have h2 := of_decide_eq_true h.1
    simp only [sumN, List.length_cons]
    omega
theorem item_at {l : List S46} (h : l.all itemB = true) {i : Nat} (hi : i < l.length) : itemB (rd_T46 l (i : Int)) = true := by
  have : rd_T46 l (i : Int) = l[i] := by simp [rd_T46, List.getD, hi]
  rw [this]
  exact List.all_eq_true.1 h _ (List.getElem_mem hi)
def rightB (a : Int) (l : List S46) : Bool := decide (1 ≤ a ∧ a ≤ 1048576) && decide (l.length ≤ 60) && l.all itemB
theorem right_f (a : Int) (l : List S46) : stock_Right.f a l = some (rightB a l) := rfl
theorem z26q {W : World} {b : Nat} {x y : Value} {t : TypeId} (h : W.heap[b]? = some (.cells #[x, y] t (0, 0))) : W.cell? ⟨b, 0, none⟩ = some x ∧ W.cell? ⟨b, 1, none⟩ = some y := ⟨(z04q h 0).trans rfl, (z04q h 1).trans rfl⟩
def SeqPost {α : Type} (S : List α → Prop) (J : List α → World → Prop) (Sp : List α → Prop) (Jx : List α → World → Prop) (e : Ending) (W' : World) : Prop := (∃ v, e = .returned v) ∧ ((∃ ys, S ys ∧ J ys W') ∨ (∃ pre, Sp pre ∧ Jx pre W'))
set_option maxHeartbeats 4000000 in
theorem stock_Each1.in_ (n : Nat) (hn : 1 ≤ n) (l Bs : Nat) (a : Int) (A : Option Addr) (cap : Nat) (zs : List S46) (w0 : World) (hI : Kd.C k46 w0 A zs.length zs) (hcap : zs.length ≤ cap)
    (J Jx : List (Int × Int) → World → Prop) (W : World) (hJ : AbidesFrom W.heap.size J)
    (hY : ∀ pre (x : Int × Int) W1, J pre W1 → pre.length < (if rightB a zs = true then sumN zs else 0) → YieldAt Fence.wide (n - 1) Try.prog l #[.int .i64 x.1, .int .i64 x.2] W1 fun e W' =>
      (e = .returned (.bool true) ∧ J (pre ++ [x]) W' ∧ KpE w0.heap.size Bs W1 W') ∨ (e = .returned (.bool false) ∧ Jx (pre ++ [x]) W'))
    (hB : Below w0.heap.size w0 W) (hBs : W.heap[Bs]? = some (.cells #[.int .i64 a, .slice A zs.length cap] 24 (0, 0))) (h0 : J [] W) :
    CallsIn Fence.wide n Try.prog 54 #[.func (.yield l) #[] #[], .pointer (some ⟨Bs, 0, none⟩)] W (SeqPost (fun ys => ys.length = (if rightB a zs = true then sumN zs else 0)) J (fun _ => True) Jx) := by
  have HI := Aside0.mk hI
  have HCAP := Aside0.mk hcap
  have HBS := Aside0.mk hBs
  have HB := Aside0.mk hB
  have HJ := Aside0.mk hJ
  have hzl : zs.length ≤ 9223372036854775807 := hI.2.1
  obtain ⟨c0, c1⟩ := z26q hBs
  obtain ⟨r, hr⟩ : ∃ r, rightB a zs = r := ⟨_, rfl⟩
  have HR : Hid (rightB a zs = r) := hr
  rw [hr] at hY ⊢
  clear hI hcap hBs hB hJ hr
  refine callsIn_of_wp Try.func54 rfl trivial ?_ rfl
  simp only [Try.ntmps54, List.size_toArray, List.length_cons, List.length_nil, Nat.reduceAdd, Nat.reduceSub, Array.replicate_succ, Array.replicate_zero, List.push_toArray, List.append_toArray, List.nil_append, List.cons_append]
  cases r with
  | false =>
    gi_wp2_with (first | (refine ⟨trivial, ?_⟩; gi_at_call 18; refine (callsIn_wide.2 (stock_Right.calls a A cap zs false W (Kd.C_below HI.out HB.out) HCAP.out (by rw [right_f, HR.out]))).mono ?_; rintro e w1 ⟨rfl, hb1⟩; have H1 : Aside0 (J [] w1) := ⟨AbidesFrom.below HJ.out h0 hb1⟩; clear hb1))
    refine bodyPost_ret (results_none rfl _ _ _) rfl ?_
    exact ⟨⟨_, rfl⟩, .inl ⟨[], rfl, H1.out⟩⟩
  | true =>
    gi_wp2_with (first | (refine ⟨trivial, ?_⟩; gi_at_call 18; refine (callsIn_wide.2 (stock_Right.calls a A cap zs true W (Kd.C_below HI.out HB.out) HCAP.out (by rw [right_f, HR.out]))).mono ?_; rintro e w1 ⟨rfl, hb1⟩; have H1 : Aside0 (J [] w1) := ⟨AbidesFrom.below HJ.out h0 hb1⟩; have K1 : Aside0 (KpE w0.heap.size Bs W w1) := ⟨KpE.below hb1 HB.out.size (blk_lt HBS.out)⟩; have c2 := (z26q (K1.out.1.2.trans HBS.out)).2; clear hb1 c0 c1))
    have hall : zs.all itemB = true := by
      have := HR.out
      unfold rightB at this
      rw [Bool.and_eq_true] at this
      exact this.2
    have hl60 : zs.length ≤ 60 := by
      have := HR.out
      unfold rightB at this
      rw [Bool.and_eq_true, Bool.and_eq_true] at this
      exact of_decide_eq_true this.1.2
    have hsum := sumN_bound hall
    have hsum2 : sumN zs ≤ 61440 := by omega
    have HALL : Hid (zs.all itemB = true) := hall
    clear hall hsum
    clear h0
    gi_loopw [3, 12] (fun s3 s12 wr => ∃ (i p : Nat) (pre : List (Int × Int)), s3 = .int .i64 (p : Int) ∧ s12 = .int .i64 (i : Int) ∧ i ≤ zs.length ∧ p ≤ 61440 ∧ Aside0 (pre.length = p ∧ p = sumN (zs.take i)) ∧ Aside0 (J pre wr) ∧ Aside0 (KpE w0.heap.size Bs W wr))
      (fun _ s12 _ => zs.length - (intOf s12).toNat)
    case atStart => exact ⟨0, 0, [], rfl, rfl, Nat.zero_le _, by omega, ⟨rfl, by simp [sumN]⟩, H1, K1⟩
    case round =>
      obtain ⟨i, p, pre, rfl, rfl, hil, hp, hpre, hJs, hK⟩ := hrel
      by_cases hlt : i < zs.length
      · have hltz : (i : Int) < (zs.length : Int) := by omega
        obtain ⟨ad, e0, hx0, hx1⟩ := at_T46 (Kd.C_below HI.out (HB.out.trans hK.out.1.1)) (i : Int) (by omega) (by omega)
        cases e0
        rw [show ((i : Int)).toNat = i from rfl] at hx0 hx1
        obtain ⟨y, hy⟩ : ∃ y, rd_T46 zs (i : Int) = y := ⟨_, rfl⟩
        rw [hy] at hx0 hx1
        have hyb : itemB y = true := by rw [← hy]; exact item_at HALL.out hlt
        have hyb2 := of_decide_eq_true hyb
        have HY : Hid (rd_T46 zs (i : Int) = y) := hy
        obtain ⟨yf, hyf⟩ : ∃ f : Nat, y.f1 = (f : Int) := ⟨y.f1.toNat, by omega⟩
        have hyf2 : yf ≤ 1024 := by omega
        rw [hyf] at hx1
        have HYF : Hid (y.f1 = (yf : Int)) := hyf
        clear hy hyb hyb2 hyf
        rename World => wo
        have HX : Aside0 ((wo.alloc (.cells #[.int .i64 y.f0, .int .i64 yf] 46)).heap[wo.heap.size]? = some (.cells #[.int .i64 y.f0, .int .i64 yf] 46 (0, 0))) := ⟨World.alloc_heap_new wo _⟩
        have HXB : Aside0 (Below wo.heap.size wo (wo.alloc (.cells #[.int .i64 y.f0, .int .i64 yf] 46))) := ⟨(Below.refl _ wo).alloc (Nat.le_refl _) _⟩
        gi_wp2
        gi_loopw [3, 18] (fun s3 s18 wr2 => ∃ (j q : Nat) (pre2 : List (Int × Int)), s3 = .int .i64 (q : Int) ∧ s18 = .int .i64 (j : Int) ∧ j ≤ yf ∧ q ≤ 61440 ∧ Aside0 (pre2.length = q ∧ q = sumN (zs.take i) + j) ∧ Aside0 (J pre2 wr2) ∧ Aside0 (KpE w0.heap.size Bs W wr2 ∧ wr2.heap[wo.heap.size]? = some (.cells #[.int .i64 y.f0, .int .i64 yf] 46 (0, 0))))
          (fun _ s18 _ => yf - (intOf s18).toNat)
        case atStart => exact ⟨0, p, pre, rfl, rfl, Nat.zero_le _, hp, ⟨hpre.out.1, by simpa using hpre.out.2⟩, ⟨AbidesFrom.below HJ.out hJs.out HXB.out⟩, ⟨hK.out.t (KpE.below HXB.out (Nat.le_trans HB.out.size hK.out.1.1.size) (Nat.lt_of_lt_of_le (blk_lt HBS.out) hK.out.1.1.size)), HX.out⟩⟩
        case round =>
          obtain ⟨j, q, pre2, rfl, rfl, hjl, hq, hpre2, hJ2, hK2⟩ := hrel
          have hxb := (z26q hK2.out.2).1
          by_cases hjt : j < yf
          · have hjt' : (j : Int) < (yf : Int) := by omega
            have hst := sumN_take zs hlt
            have hle := sumN_le_take zs (i := i + 1)
            have hq2 : pre2.length < sumN zs := by
              have h1 := hpre2.out
              rw [HY.out, HYF.out] at hst
              simp at hst
              omega
            obtain ⟨fn, tmps, assign, body, hy, hR⟩ := hY pre2 ((q : Int), y.f0) wr hJ2.out (by simpa using hq2)
            dsimp only at hy
            have hq3 : q + 1 ≤ 61440 := by have := hpre2.out; omega
            clear hst hle hq2
            have HRR := Aside0.mk hR
            clear hR
            gi_wp2
            refine HRR.out.mono ?_
            rintro e W3 (⟨rfl, hJ3, hk3⟩ | ⟨rfl, hJx3⟩)
            · have HJ3 := Aside0.mk hJ3
              have HK3 := Aside0.mk hk3
              clear hJ3 hk3
              gi_wp2
              go_roundw
              case rel => exact ⟨j + 1, q + 1, pre2 ++ [((q : Int), y.f0)], by go_num, by go_num, by omega, hq3, ⟨by have := hpre2.out; simp; omega⟩, HJ3, ⟨hK2.out.1.t HK3.out, HK3.out.2 _ _ hK2.out.2⟩⟩
              case measure => simp [intOf]; omega
            · have HJ3 := Aside0.mk hJx3
              clear hJx3
              gi_wp2
              refine bodyPost_ret (results_none rfl _ _ _) rfl ?_
              exact ⟨⟨_, rfl⟩, .inr ⟨_, trivial, HJ3.out⟩⟩
          · have hjt' : ¬ (j : Int) < (yf : Int) := by omega
            have hst := sumN_take zs hlt
            have hje : p = p := rfl
            have HP2 : Aside0 (pre2.length = q ∧ q = sumN (zs.take (i + 1))) := ⟨by
              have h1 := hpre2.out
              rw [HY.out, HYF.out] at hst
              simp at hst
              omega⟩
            clear hst hje
            gi_wp2
            go_roundw
            case rel => exact ⟨i + 1, q, pre2, rfl, by go_num, by omega, hq, HP2, hJ2, ⟨hK2.out.1⟩⟩
            case measure => simp [intOf]; omega
      · gi_wp2
        go_end0
        exact ⟨⟨_, rfl⟩, .inl ⟨pre, by show pre.length = sumN zs; rw [hpre.out.1, hpre.out.2, show i = zs.length by omega, List.take_length], hJs.out⟩⟩
theorem stock_Each.in_ (n : Nat) (a : Int) (A : Option Addr) (l cap : Nat) (w : World) :
    CallsIn Fence.wide n Try.prog 36 #[.agg #[.int .i64 a, .slice A l cap]] w fun e w' => e = .returned (.func (.func 54) #[] #[.pointer (some ⟨w.heap.size, 0, none⟩)]) ∧ w' = w.alloc (.cells #[.int .i64 a, .slice A l cap] 24) := by
  refine callsIn_of_wp Try.func36 rfl trivial ?_ rfl
  simp only [Try.ntmps36, List.size_toArray, List.length_cons, List.length_nil, Nat.reduceAdd, Nat.reduceSub, Array.replicate_succ, Array.replicate_zero, List.push_toArray, List.append_toArray, List.nil_append, List.cons_append]
  gi_wp2
  go_ret
  exact ⟨rfl, rfl⟩
theorem stock_Each.stops (n : Nat) (hn : 1 ≤ n) (Bs : Nat) (a : Int) (A : Option Addr) (cap : Nat) (zs : List S46) (w0 w : World) (hI : Kd.C k46 w0 A zs.length zs) (hcap : zs.length ≤ cap)
    (hB : Below w0.heap.size w0 w) (hBs : w.heap[Bs]? = some (.cells #[.int .i64 a, .slice A zs.length cap] 24 (0, 0))) :
    SeqStopsK Fence.wide n Try.prog 54 #[.pointer (some ⟨Bs, 0, none⟩)] (fun x : Int × Int => #[Value.int .i64 x.1, Value.int .i64 x.2]) (KpE w0.heap.size Bs) (fun ys => ys.length = (if rightB a zs = true then sumN zs else 0)) (fun _ => True)
      (if rightB a zs = true then sumN zs else 0) w := fun l J Jx W hW hJ _ hY h0 =>
  stock_Each1.in_ n hn l Bs a A cap zs w0 hI hcap J Jx W hJ hY (hB.trans (hW.mono hB.size)) (z09q hBs hW) h0
def stock_Total.f (a : Int) (l : List S46) : Option Int := some (((if rightB a l = true then sumN l else 0) : Nat) : Int)
set_option maxHeartbeats 4000000 in
theorem stock_Total.calls (a0_0 : Int) (A0_1 : Option Addr) (c0_1 : Nat) (l0_1 : List S46) (r : Int) (w : World) (hr0_1 : Kd.C k46 w A0_1 l0_1.length l0_1) (hc0_1 : l0_1.length ≤ c0_1) (h : stock_Total.f a0_0 l0_1 = some r) :
    Calls Try.prog 19 #[.agg #[.int .i64 a0_0, .slice A0_1 l0_1.length c0_1]] w fun e w' => e = .returned (.int .i64 r) ∧ Below w.heap.size w w' := by
  obtain ⟨N, hN⟩ : ∃ N, (if rightB a0_0 l0_1 = true then sumN l0_1 else 0) = N := ⟨_, rfl⟩
  have hNb : N ≤ 61440 := by
    rw [← hN]
    split
    · rename_i hr
      unfold rightB at hr
      rw [Bool.and_eq_true, Bool.and_eq_true] at hr
      have := sumN_bound hr.2
      have := of_decide_eq_true hr.1.2
      omega
    · omega
  obtain rfl : r = (N : Int) := by
    have := h
    unfold stock_Total.f at this
    rw [hN] at this
    exact (Option.some.inj this).symm
  have HN : Hid ((if rightB a0_0 l0_1 = true then sumN l0_1 else 0) = N) := hN
  have HR := Aside0.mk hr0_1
  have HC := Aside0.mk hc0_1
  clear hr0_1 hc0_1 h hN
  refine (callsIn_wide (n := 4)).1 ?_
  refine callsIn_of_wp_marks Try.func19 rfl trivial ?_ rfl
  simp only [Try.ntmps19, List.size_toArray, List.length_cons, List.length_nil, Nat.reduceAdd, Nat.reduceSub, Array.replicate_succ, Array.replicate_zero, List.push_toArray, List.append_toArray, List.nil_append, List.cons_append]
  gi_wp2_with (first | (refine ⟨trivial, ?_⟩; gi_at_call 36; refine (stock_Each.in_ 3 a0_0 A0_1 l0_1.length c0_1 _).mono ?_; rintro e w' ⟨rfl, rfl⟩))
  have bN := Boxed.new (w.alloc (.cells #[.int .i64 a0_0, .slice A0_1 l0_1.length c0_1] 24)) 3 (.int .i64 0)
  rw [World.size_alloc] at bN
  have bS := World.alloc_heap_new ((w.alloc (.cells #[.int .i64 a0_0, .slice A0_1 l0_1.length c0_1] 24)).alloc (.cells #[.int .i64 0] 3)) (.cells #[.int .i64 a0_0, .slice A0_1 l0_1.length c0_1] 24)
  rw [World.size_alloc, World.size_alloc] at bS
  have hB0 : Below w.heap.size w (((w.alloc (.cells #[.int .i64 a0_0, .slice A0_1 l0_1.length c0_1] 24)).alloc (.cells #[.int .i64 0] 3)).alloc (.cells #[.int .i64 a0_0, .slice A0_1 l0_1.length c0_1] 24)) := (((Below.refl _ w).alloc (Nat.le_refl _) _).alloc (by simp) _).alloc (by simp; omega) _
  have hst := stock_Each.stops 3 (by omega) (w.heap.size + 1 + 1) a0_0 A0_1 c0_1 l0_1 w _ HR.out HC.out hB0 bS
  rw [HN.out] at hst
  refine wpIn_rangeFunc_ownG (n := 4) rfl (by decide) (gf := 54) (lb := #[.pointer (some ⟨w.heap.size + 1 + 1, 0, none⟩)]) rfl trivial (enters_of Try.func54 (by kernel_rfl) rfl)
    hst KpE.t (KpE.b (by simp; omega) (by simp)) (Below.refl _ _) (fun _ => rfl)
    (fun pre W => Boxed W (w.heap.size + 1) 3 (.int .i64 (pre.length : Int)) ∧ Below w.heap.size w W)
    (fun _ _ _ => False)
    (OwnFrom.and (Own.from (boxed_own (w.heap.size + 1) 3 (fun pre : List (Int × Int) => .int .i64 (pre.length : Int))) _) (ownFrom_below (Nat.le_refl _) (by simp; omega)))
    (fun _ _ _ _ _ hs _ _ => hs)
    ⟨bN.alloc _, hB0⟩
    (fun x => { tmps := #[.agg #[.int .i64 a0_0, .slice A0_1 l0_1.length c0_1], .pointer (some ⟨w.heap.size, 0, none⟩), .int .i64 0, .pointer (some ⟨w.heap.size + 1, 0, none⟩), .agg #[.int .i64 a0_0, .slice A0_1 l0_1.length c0_1], .func (.func 54) #[] #[.pointer (some ⟨w.heap.size + 1 + 1, 0, none⟩)], .int .i64 x.1, .int .i64 x.2, undef, undef, undef], defers := [] }) ?assign ?body ?done ?stop
  case assign =>
    intro l x W K hK
    simp only [List.zip_toArray, List.zip_cons_cons, List.zip_nil_left, List.zip_nil_right, List.foldl_toArray', List.foldl_toArray, List.foldl_cons, List.foldl_nil]
    gi_wp2
    exact hK
  case body =>
    rintro l pre x W ⟨hb, hB⟩ hlen
    have hc := hb.cell
    have hf := hb.frozen
    have hp1 : (pre.length : Int) + 1 ≤ 61440 := by omega
    gi_wp2
    exact ⟨(KeepsOthers.setCell _ _ _).from _, ⟨KeptB.set W ⟨w.heap.size + 1, 0, none⟩ _ (by simp) (by simp), Tkeep.set (p := ⟨w.heap.size + 1, 0, none⟩) hb (by decide) _⟩, by simpa using hb.set (.int .i64 ((pre.length : Int) + 1)), hB.setCell (p := ⟨w.heap.size + 1, 0, none⟩) (by simp) _⟩
  case done =>
    rintro D ys W hD hys ⟨hb, hB⟩ hK
    have HYS : Hid (ys.length = N) := hys
    have hc := hb.cell
    gi_wp2
    refine ⟨by simp, .inl ⟨_, _, rfl, run_takeDeferred hK, ?_⟩⟩
    exact ⟨_, results_tmp rfl _ _ _, by rw [← HYS.out]; rfl, hB.trans (belowK_b (w := w) (Nat.le_refl _) W D _ _ (by simp at hD; omega) hK rfl rfl)⟩
  case stop =>
    rintro D c pre W _ _ h _
    exact h.elim
end
mutual
def knap_wide.j0 : Nat → List Int → Bool → Int → List (S46) → Option (Int × Bool)
  | 0, _, _, _, _ => none
  | k + 1, x1, x19, x327000, x327001 => if x19 = true then (some (0, false)) else (knap_wide.l0 k x1 0 x327001 (x327001.length : Int) 0 x327000 x327001)
def knap_wide.l0 : Nat → List Int → Int → List (S46) → Int → Int → Int → List (S46) → Option (Int × Bool)
  | 0, _, _, _, _, _, _, _ => none
  | k + 1, x1, x6, x21, x22, x23, x327000, x327001 => if x23 < x22 then (if 0 ≤ x23 then (if x23 < (x21.length : Int) then (if x23 < (x1.length : Int) then (if (rd x1 x23) < 0 then (some (0, false)) else (if (rd x1 x23) > ((rd_T46 x21 x23).f1) then (some (0, false)) else (knap_wide.l0 k x1 (wrap64 (x6 + (wrap64 ((rd x1 x23) * ((rd_T46 x21 x23).f0))))) x21 x22 (wrap64 (x23 + 1)) x327000 x327001))) else (none)) else (none)) else (none)) else (some (x6, decide (x6 ≤ x327000)))
end
def knap_wide.f (k : Nat) (a0_0 : Int) (l0_1 : List (S46)) (l1 : List Int) : Option (Int × Bool) := (stock_Right.f a0_0 l0_1).bind fun t327 => (if t327 = true then (knap_wide.j0 k l1 ((l1.length : Int) != (l0_1.length : Int)) a0_0 l0_1) else (knap_wide.j0 k l1 true a0_0 l0_1))
theorem knap_wide.mono_l : ∀ k, (∀ y0 y1 y2 y3, LeO (knap_wide.j0 k y0 y1 y2 y3) (knap_wide.j0 (k + 1) y0 y1 y2 y3)) ∧ (∀ y0 y1 y2 y3 y4 y5 y6, LeO (knap_wide.l0 k y0 y1 y2 y3 y4 y5 y6) (knap_wide.l0 (k + 1) y0 y1 y2 y3 y4 y5 y6))
  | 0 => ⟨fun _ _ _ _ r h => by simp [knap_wide.j0] at h, fun _ _ _ _ _ _ _ r h => by simp [knap_wide.l0] at h⟩
  | k + 1 => by
    obtain ⟨ih0, ih1⟩ := knap_wide.mono_l k
    refine ⟨?_, ?_⟩
    · intro y0 y1 y2 y3
      unfold knap_wide.j0
      repeat' first
      | (with_reducible exact ih0 _ _ _ _)
      | (with_reducible exact ih1 _ _ _ _ _ _ _)
      | (with_reducible exact LeO.refl _)
      | (with_reducible exact LeO.none _)
      | (with_reducible refine LeO.ite ?_ ?_)
      | (with_reducible refine LeO.bind ?_ (fun _ => ?_))
      | exact ih0 _ _ _ _
      | exact ih1 _ _ _ _ _ _ _
      | exact LeO.none _
      | refine LeO.ite ?_ ?_
      | refine LeO.bind ?_ (fun _ => ?_)
    · intro y0 y1 y2 y3 y4 y5 y6
      unfold knap_wide.l0
      repeat' first
      | (with_reducible exact ih0 _ _ _ _)
      | (with_reducible exact ih1 _ _ _ _ _ _ _)
      | (with_reducible exact LeO.refl _)
      | (with_reducible exact LeO.none _)
      | (with_reducible refine LeO.ite ?_ ?_)
      | (with_reducible refine LeO.bind ?_ (fun _ => ?_))
      | exact ih0 _ _ _ _
      | exact ih1 _ _ _ _ _ _ _
      | exact LeO.none _
      | refine LeO.ite ?_ ?_
      | refine LeO.bind ?_ (fun _ => ?_)
theorem knap_wide.mono : ∀ a0 a1 a2 k, LeO (knap_wide.f k a0 a1 a2) (knap_wide.f (k + 1) a0 a1 a2) := by
  intro a0 a1 a2 k
  obtain ⟨ih0, ih1⟩ := knap_wide.mono_l k
  unfold knap_wide.f
  repeat' first
      | (with_reducible exact ih0 _ _ _ _)
      | (with_reducible exact ih1 _ _ _ _ _ _ _)
      | (with_reducible exact LeO.refl _)
      | (with_reducible exact LeO.none _)
      | (with_reducible refine LeO.ite ?_ ?_)
      | (with_reducible refine LeO.bind ?_ (fun _ => ?_))
      | exact ih0 _ _ _ _
      | exact ih1 _ _ _ _ _ _ _
      | exact LeO.none _
      | refine LeO.ite ?_ ?_
      | refine LeO.bind ?_ (fun _ => ?_)
set_option maxHeartbeats 8000000 in
set_option maxRecDepth 100000 in
theorem knap_wide.calls (k : Nat) (a0_0 : Int) (A0_1 : Option Addr) (c0_1 : Nat) (l0_1 : List (S46)) (A1 : Option Addr) (c1 : Nat) (l1 : List Int) (r1 : Int) (r2 : Bool) (w : World) (hr0_1 : Kd.C k46 w A0_1 l0_1.length l0_1) (hc0_1 : l0_1.length ≤ c0_1) (hr1 : Kd.C (Kd.int .i64) w A1 l1.length l1) (hc1 : l1.length ≤ c1) (h : knap_wide.f k a0_0 l0_1 l1 = some (r1, r2)) :
    Calls Try.prog 26 #[.agg #[.int .i64 a0_0, .slice A0_1 l0_1.length c0_1], .slice A1 l1.length c1] w fun e w' => e = .returned (.tuple #[.int .i64 r1, .bool r2]) ∧ Below w.heap.size w w' := by
  have hu24 := Try.underlying24
  have hu46 := Try.underlying46
  have HR0_1 := Aside0.mk hr0_1
  have HC0_1 := Aside0.mk hc0_1
  clear hr0_1 hc0_1
  have HR1 := Aside0.mk hr1
  have HC1 := Aside0.mk hc1
  clear hr1 hc1
  have HB := Aside0.mk (Below.refl w.heap.size w)
  have H : ((stock_Right.f a0_0 l0_1).bind fun t327 => (if t327 = true then (knap_wide.j0 k l1 ((l1.length : Int) != (l0_1.length : Int)) a0_0 l0_1) else (knap_wide.j0 k l1 true a0_0 l0_1))) = some (r1, r2) := h
  clear h
  have HC3 := Aside0.mk H
  clear H
  go_enter Try.func26, Try.ntmps26
  go_upto_region 1 with (first | ((with_reducible refine z18q (N := 2) rfl ?_); (try (refine z25q (by rfl) ?_; dsimp only)); refine z17q ?hg (N := 2) ?hd (cs := #[.int .i64 a0_0, .slice A0_1 l0_1.length c0_1]) (t := 24) ?hr ?_; (case hd => rfl); (case hg => rfl); (case hr => first | (go_simp; done) | (go_simp; rfl)); intro gb326 hg w4 hbox hb; have n0_ := Aside0.mk (z11q (by repeat (first | (with_reducible first | exact HB.out | apply z02q | apply z00q | apply z01q) | exact HB.out)) hb); have n1_ := Aside0.mk (hbox); have n2_ := Aside0.mk ((by rw [hg]; exact (z10q (by repeat (first | (with_reducible first | exact HB.out | apply z02q | apply z00q | apply z01q) | exact HB.out))) : w.heap.size ≤ gb326)); have n3_ := Aside0.mk ((by rw [hg]; exact (z10q (by repeat (first | (with_reducible first | exact HB.out | apply z02q | apply z00q | apply z01q) | exact HB.out))) : w.heap.size ≤ gb326)); clear HB; have HB := n0_; have BK326 := n1_; have GW326 := n2_; have GE326 := n3_; clear n0_ n1_ n2_ n3_; clear hb hbox hg))
  repeat (go_quiet (first | ((with_reducible refine z18q (N := 2) rfl ?_); (try (refine z25q (by rfl) ?_; dsimp only)); refine z17q ?hg (N := 2) ?hd (cs := #[.int .i64 a0_0, .slice A0_1 l0_1.length c0_1]) (t := 24) ?hr ?_; (case hd => rfl); (case hg => rfl); (case hr => first | (go_simp; done) | (go_simp; rfl)); intro gb326 hg w4 hbox hb; have n0_ := Aside0.mk (z11q (by repeat (first | (with_reducible first | exact HB.out | apply z02q | apply z00q | apply z01q) | exact HB.out)) hb); have n1_ := Aside0.mk (hbox); have n2_ := Aside0.mk ((by rw [hg]; exact (z10q (by repeat (first | (with_reducible first | exact HB.out | apply z02q | apply z00q | apply z01q) | exact HB.out))) : w.heap.size ≤ gb326)); have n3_ := Aside0.mk ((by rw [hg]; exact (z10q (by repeat (first | (with_reducible first | exact HB.out | apply z02q | apply z00q | apply z01q) | exact HB.out))) : w.heap.size ≤ gb326)); clear HB; have HB := n0_; have BK326 := n1_; have GW326 := n2_; have GE326 := n3_; clear n0_ n1_ n2_ n3_; clear hb hbox hg)); go_upto_region 1 with (first | ((with_reducible refine z18q (N := 2) rfl ?_); (try (refine z25q (by rfl) ?_; dsimp only)); refine z17q ?hg (N := 2) ?hd (cs := #[.int .i64 a0_0, .slice A0_1 l0_1.length c0_1]) (t := 24) ?hr ?_; (case hd => rfl); (case hg => rfl); (case hr => first | (go_simp; done) | (go_simp; rfl)); intro gb326 hg w4 hbox hb; have n0_ := Aside0.mk (z11q (by repeat (first | (with_reducible first | exact HB.out | apply z02q | apply z00q | apply z01q) | exact HB.out)) hb); have n1_ := Aside0.mk (hbox); have n2_ := Aside0.mk ((by rw [hg]; exact (z10q (by repeat (first | (with_reducible first | exact HB.out | apply z02q | apply z00q | apply z01q) | exact HB.out))) : w.heap.size ≤ gb326)); have n3_ := Aside0.mk ((by rw [hg]; exact (z10q (by repeat (first | (with_reducible first | exact HB.out | apply z02q | apply z00q | apply z01q) | exact HB.out))) : w.heap.size ≤ gb326)); clear HB; have HB := n0_; have BK326 := n1_; have GW326 := n2_; have GE326 := n3_; clear n0_ n1_ n2_ n3_; clear hb hbox hg)))
  (try simp only [Act.put, sT_])
  go_cut [19] (fun v19 wc => ∃ (kq : Nat) (x19_2 : Bool), v19 = .bool x19_2 ∧ Aside0 (knap_wide.j0 kq l1 x19_2 a0_0 l0_1 = some (r1, r2)) ∧ Aside0 (kq ≤ k) ∧ Aside0 (wc.heap[gb326]? = some (.cells #[.int .i64 a0_0, (.slice A0_1 l0_1.length c0_1)] 24 (0, 0))) ∧ Aside0 (Below w.heap.size w wc))
  case first =>
    have H := HC3.out
    clear HC3
    replace H := Option.bind_eq_some_iff.mp H
    obtain ⟨t327, A50, H⟩ := H
    replace H : (if t327 = true then (knap_wide.j0 k l1 ((l1.length : Int) != (l0_1.length : Int)) a0_0 l0_1) else (knap_wide.j0 k l1 true a0_0 l0_1)) = some (r1, r2) := H
    have A5 := Aside0.mk A50
    clear A50
    by_cases c6 : t327 = true
    · subst c6
      have H1 : (knap_wide.j0 k l1 ((l1.length : Int) != (l0_1.length : Int)) a0_0 l0_1) = some (r1, r2) := by rw [if_pos rfl] at H; exact H
      clear H
      have H := H1
      clear H1
      have H' := Aside0.mk H
      clear H
      have hcz7_0 : w4.cell? ⟨gb326, 0, none⟩ = some (.int .i64 a0_0) := (z04q BK326.out 0).trans rfl
      have hcz7_1 : w4.cell? ⟨gb326, 1, none⟩ = some (.slice A0_1 l0_1.length c0_1) := (z04q BK326.out 1).trans rfl
      have hfz7_0 := z08q BK326.out 0
      have hfz7_1 := z08q BK326.out 1
      go_wp2_with (first | (go_at_call 18; (with_reducible refine (stock_Right.calls a0_0 _ _ l0_1 true _ ?side1 ?side2 A5.out).mono ?_); (case side1 => repeat (first | exact (Kd.C_below HR0_1.out HB.out) | (with_reducible refine Kd.C_alloc ?_ _) | (with_reducible refine Kd.C_drewN ?_ _) | (with_reducible refine Kd.C_drew ?_))); (case side2 => exact HC0_1.out); rintro e w8 ⟨rfl, hb⟩; have n0_ := Aside0.mk (z09q (g := gb326) (o := .cells #[.int .i64 a0_0, .slice A0_1 l0_1.length c0_1] 24 (0, 0)) (by (with_reducible repeat (first | refine z06q ?_ _ | refine z07q ?_ | refine z05q ?_ _)); exact BK326.out) hb); have n1_ := Aside0.mk (z11q (by repeat (first | (with_reducible first | exact HB.out | apply z02q | apply z00q | apply z01q | refine z03q ?_ GE326.out) | exact HB.out)) hb); clear BK326; clear HB; have BK326 := n0_; have HB := n1_; clear n0_ n1_; (try clear hb); (try clear hb2); (try clear hk); (try clear hi); have hcz9_0 : w8.cell? ⟨gb326, 0, none⟩ = some (.int .i64 a0_0) := (z04q BK326.out 0).trans rfl; have hcz9_1 : w8.cell? ⟨gb326, 1, none⟩ = some (.slice A0_1 l0_1.length c0_1) := (z04q BK326.out 1).trans rfl; have hfz9_0 := z08q BK326.out 0; have hfz9_1 := z08q BK326.out 1))
      repeat (go_quiet (first | (go_at_call 18; (with_reducible refine (stock_Right.calls a0_0 _ _ l0_1 true _ ?side1 ?side2 A5.out).mono ?_); (case side1 => repeat (first | exact (Kd.C_below HR0_1.out HB.out) | (with_reducible refine Kd.C_alloc ?_ _) | (with_reducible refine Kd.C_drewN ?_ _) | (with_reducible refine Kd.C_drew ?_))); (case side2 => exact HC0_1.out); rintro e w8 ⟨rfl, hb⟩; have n0_ := Aside0.mk (z09q (g := gb326) (o := .cells #[.int .i64 a0_0, .slice A0_1 l0_1.length c0_1] 24 (0, 0)) (by (with_reducible repeat (first | refine z06q ?_ _ | refine z07q ?_ | refine z05q ?_ _)); exact BK326.out) hb); have n1_ := Aside0.mk (z11q (by repeat (first | (with_reducible first | exact HB.out | apply z02q | apply z00q | apply z01q | refine z03q ?_ GE326.out) | exact HB.out)) hb); clear BK326; clear HB; have BK326 := n0_; have HB := n1_; clear n0_ n1_; (try clear hb); (try clear hb2); (try clear hk); (try clear hi); have hcz9_0 : w8.cell? ⟨gb326, 0, none⟩ = some (.int .i64 a0_0) := (z04q BK326.out 0).trans rfl; have hcz9_1 : w8.cell? ⟨gb326, 1, none⟩ = some (.slice A0_1 l0_1.length c0_1) := (z04q BK326.out 1).trans rfl; have hfz9_0 := z08q BK326.out 0; have hfz9_1 := z08q BK326.out 1)); try go_wp2_with (first | (go_at_call 18; (with_reducible refine (stock_Right.calls a0_0 _ _ l0_1 true _ ?side1 ?side2 A5.out).mono ?_); (case side1 => repeat (first | exact (Kd.C_below HR0_1.out HB.out) | (with_reducible refine Kd.C_alloc ?_ _) | (with_reducible refine Kd.C_drewN ?_ _) | (with_reducible refine Kd.C_drew ?_))); (case side2 => exact HC0_1.out); rintro e w8 ⟨rfl, hb⟩; have n0_ := Aside0.mk (z09q (g := gb326) (o := .cells #[.int .i64 a0_0, .slice A0_1 l0_1.length c0_1] 24 (0, 0)) (by (with_reducible repeat (first | refine z06q ?_ _ | refine z07q ?_ | refine z05q ?_ _)); exact BK326.out) hb); have n1_ := Aside0.mk (z11q (by repeat (first | (with_reducible first | exact HB.out | apply z02q | apply z00q | apply z01q | refine z03q ?_ GE326.out) | exact HB.out)) hb); clear BK326; clear HB; have BK326 := n0_; have HB := n1_; clear n0_ n1_; (try clear hb); (try clear hb2); (try clear hk); (try clear hi); have hcz9_0 : w8.cell? ⟨gb326, 0, none⟩ = some (.int .i64 a0_0) := (z04q BK326.out 0).trans rfl; have hcz9_1 : w8.cell? ⟨gb326, 1, none⟩ = some (.slice A0_1 l0_1.length c0_1) := (z04q BK326.out 1).trans rfl; have hfz9_0 := z08q BK326.out 0; have hfz9_1 := z08q BK326.out 1)))
      go_meet
      case rel => exact ⟨_, (((l1.length : Int) != (l0_1.length : Int))), (by first | rfl | (simp; done) | (simp [*]; done)), H', ⟨by first | omega | exact Nat.le_refl _⟩, ⟨by (with_reducible repeat (first | refine z06q ?_ _ | refine z07q ?_ | refine z05q ?_ _)); exact BK326.out⟩, ⟨by repeat (first | (with_reducible first | exact HB.out | apply z02q | apply z00q | apply z01q | refine z03q ?_ GE326.out) | exact HB.out)⟩⟩
    · replace c6 := Bool.eq_false_iff.mpr c6
      subst c6
      have H1 : (knap_wide.j0 k l1 true a0_0 l0_1) = some (r1, r2) := by rw [if_neg (show ¬ (false = true) by decide)] at H; exact H
      clear H
      have H := H1
      clear H1
      have H' := Aside0.mk H
      clear H
      have hcz10_0 : w4.cell? ⟨gb326, 0, none⟩ = some (.int .i64 a0_0) := (z04q BK326.out 0).trans rfl
      have hcz10_1 : w4.cell? ⟨gb326, 1, none⟩ = some (.slice A0_1 l0_1.length c0_1) := (z04q BK326.out 1).trans rfl
      have hfz10_0 := z08q BK326.out 0
      have hfz10_1 := z08q BK326.out 1
      go_wp2_with (first | (go_at_call 18; (with_reducible refine (stock_Right.calls a0_0 _ _ l0_1 false _ ?side1 ?side2 A5.out).mono ?_); (case side1 => repeat (first | exact (Kd.C_below HR0_1.out HB.out) | (with_reducible refine Kd.C_alloc ?_ _) | (with_reducible refine Kd.C_drewN ?_ _) | (with_reducible refine Kd.C_drew ?_))); (case side2 => exact HC0_1.out); rintro e w11 ⟨rfl, hb⟩; have n0_ := Aside0.mk (z09q (g := gb326) (o := .cells #[.int .i64 a0_0, .slice A0_1 l0_1.length c0_1] 24 (0, 0)) (by (with_reducible repeat (first | refine z06q ?_ _ | refine z07q ?_ | refine z05q ?_ _)); exact BK326.out) hb); have n1_ := Aside0.mk (z11q (by repeat (first | (with_reducible first | exact HB.out | apply z02q | apply z00q | apply z01q | refine z03q ?_ GE326.out) | exact HB.out)) hb); clear BK326; clear HB; have BK326 := n0_; have HB := n1_; clear n0_ n1_; (try clear hb); (try clear hb2); (try clear hk); (try clear hi)))
      repeat (go_quiet (first | (go_at_call 18; (with_reducible refine (stock_Right.calls a0_0 _ _ l0_1 false _ ?side1 ?side2 A5.out).mono ?_); (case side1 => repeat (first | exact (Kd.C_below HR0_1.out HB.out) | (with_reducible refine Kd.C_alloc ?_ _) | (with_reducible refine Kd.C_drewN ?_ _) | (with_reducible refine Kd.C_drew ?_))); (case side2 => exact HC0_1.out); rintro e w11 ⟨rfl, hb⟩; have n0_ := Aside0.mk (z09q (g := gb326) (o := .cells #[.int .i64 a0_0, .slice A0_1 l0_1.length c0_1] 24 (0, 0)) (by (with_reducible repeat (first | refine z06q ?_ _ | refine z07q ?_ | refine z05q ?_ _)); exact BK326.out) hb); have n1_ := Aside0.mk (z11q (by repeat (first | (with_reducible first | exact HB.out | apply z02q | apply z00q | apply z01q | refine z03q ?_ GE326.out) | exact HB.out)) hb); clear BK326; clear HB; have BK326 := n0_; have HB := n1_; clear n0_ n1_; (try clear hb); (try clear hb2); (try clear hk); (try clear hi))); try go_wp2_with (first | (go_at_call 18; (with_reducible refine (stock_Right.calls a0_0 _ _ l0_1 false _ ?side1 ?side2 A5.out).mono ?_); (case side1 => repeat (first | exact (Kd.C_below HR0_1.out HB.out) | (with_reducible refine Kd.C_alloc ?_ _) | (with_reducible refine Kd.C_drewN ?_ _) | (with_reducible refine Kd.C_drew ?_))); (case side2 => exact HC0_1.out); rintro e w11 ⟨rfl, hb⟩; have n0_ := Aside0.mk (z09q (g := gb326) (o := .cells #[.int .i64 a0_0, .slice A0_1 l0_1.length c0_1] 24 (0, 0)) (by (with_reducible repeat (first | refine z06q ?_ _ | refine z07q ?_ | refine z05q ?_ _)); exact BK326.out) hb); have n1_ := Aside0.mk (z11q (by repeat (first | (with_reducible first | exact HB.out | apply z02q | apply z00q | apply z01q | refine z03q ?_ GE326.out) | exact HB.out)) hb); clear BK326; clear HB; have BK326 := n0_; have HB := n1_; clear n0_ n1_; (try clear hb); (try clear hb2); (try clear hk); (try clear hi))))
      go_meet
      case rel => exact ⟨_, (true), (by first | rfl | (simp; done) | (simp [*]; done)), H', ⟨by first | omega | exact Nat.le_refl _⟩, ⟨by (with_reducible repeat (first | refine z06q ?_ _ | refine z07q ?_ | refine z05q ?_ _)); exact BK326.out⟩, ⟨by repeat (first | (with_reducible first | exact HB.out | apply z02q | apply z00q | apply z01q | refine z03q ?_ GE326.out) | exact HB.out)⟩⟩
  case rest =>
    clear HC3
    try clear c1
    try clear c2
    try clear p2
    try clear c6
    try clear hcz10_0
    try clear hcz10_1
    try clear hcz7_0
    try clear hcz7_1
    try clear hcz9_0
    try clear hcz9_1
    try clear hfz10_0
    try clear hfz10_1
    try clear hfz7_0
    try clear hfz7_1
    try clear hfz9_0
    try clear hfz9_1
    obtain ⟨kq, x19_2, rfl, HA, HJ2, BK326, HB⟩ := hcut
    cases kq with
    | zero => exact absurd HA.out (by simp [knap_wide.j0])
    | succ kj2 =>
      have H := HA.out
      clear HA
      simp only [knap_wide.j0] at H
      by_cases c12 : x19_2 = true
      · subst c12
        have H1 : (some (0, false)) = some (r1, r2) := by rw [if_pos rfl] at H; exact H
        clear H
        have H := H1
        clear H1
        simp only [Option.some.injEq, Prod.mk.injEq] at H
        obtain ⟨rfl, rfl⟩ := H
        go_wp2
        repeat (go_quiet (fail); try go_wp2)
        go_ret2
        exact ⟨by first | rfl | (simp [z14q, z13q] <;> rfl) | (simp [*, z14q, z13q] <;> rfl), by repeat (first | (with_reducible first | exact HB.out | apply z02q | apply z00q | apply z01q | refine z03q ?_ GE326.out) | exact HB.out)⟩
      · replace c12 := Bool.eq_false_iff.mpr c12
        subst c12
        have H1 : (knap_wide.l0 kj2 l1 0 l0_1 (l0_1.length : Int) 0 a0_0 l0_1) = some (r1, r2) := by rw [if_neg (show ¬ (false = true) by decide)] at H; exact H
        clear H
        have H := H1
        clear H1
        have H' := Aside0.mk H
        clear H
        have hcz13_0 : wc.cell? ⟨gb326, 0, none⟩ = some (.int .i64 a0_0) := (z04q BK326.out 0).trans rfl
        have hcz13_1 : wc.cell? ⟨gb326, 1, none⟩ = some (.slice A0_1 l0_1.length c0_1) := (z04q BK326.out 1).trans rfl
        have hfz13_0 := z08q BK326.out 0
        have hfz13_1 := z08q BK326.out 1
        go_wp2
        repeat (go_quiet (fail); try go_wp2)
        go_loopg [6, 23] kj2 (fun kq v6 v23 w' => ∃ (x6_2 : Int) (x23_2 : Int), v6 = .int .i64 x6_2 ∧ v23 = .int .i64 x23_2 ∧ Aside0 (knap_wide.l0 kq l1 x6_2 l0_1 (l0_1.length : Int) x23_2 a0_0 l0_1 = some (r1, r2)) ∧ Aside0 (kq ≤ kj2) ∧ Aside0 (w'.heap[gb326]? = some (.cells #[.int .i64 a0_0, (.slice A0_1 l0_1.length c0_1)] 24 (0, 0))) ∧ Aside0 (Below w.heap.size w w'))
        case atStart => exact ⟨(0), (0), (by first | rfl | (simp; done) | (simp [*]; done)), (by first | rfl | (simp; done) | (simp [*]; done)), H', ⟨Nat.le_refl _⟩, ⟨by (with_reducible repeat (first | refine z06q ?_ _ | refine z07q ?_ | refine z05q ?_ _)); exact BK326.out⟩, ⟨by repeat (first | (with_reducible first | exact HB.out | apply z02q | apply z00q | apply z01q | refine z03q ?_ GE326.out) | exact HB.out)⟩⟩
        case round =>
          clear H'
          try clear c1
          try clear c2
          try clear p2
          try clear c6
          try clear c12
          try clear hcz10_0
          try clear hcz10_1
          try clear hcz13_0
          try clear hcz13_1
          try clear hcz7_0
          try clear hcz7_1
          try clear hcz9_0
          try clear hcz9_1
          try clear hfz10_0
          try clear hfz10_1
          try clear hfz13_0
          try clear hfz13_1
          try clear hfz7_0
          try clear hfz7_1
          try clear hfz9_0
          try clear hfz9_1
          try clear p2
          obtain ⟨x6_2, x23_2, rfl, rfl, HA, HK2, BK326, HB⟩ := hrel
          cases gk with
          | zero => exact absurd HA.out (by simp [knap_wide.l0])
          | succ k2 =>
            have H := HA.out
            clear HA
            simp only [knap_wide.l0] at H
            by_cases c14 : x23_2 < (l0_1.length : Int)
            · rw [if_pos c14] at H
              have c14b0 : decide (x23_2 < (l0_1.length : Int)) = true := decide_eq_true c14
              clear c14
              by_cases c15 : 0 ≤ x23_2
              · rw [if_pos c15] at H
                have c15b0 : decide (0 ≤ x23_2) = true := decide_eq_true c15
                clear c15
                by_cases c16 : x23_2 < (l0_1.length : Int)
                · rw [if_pos c16] at H
                  have c16b0 : decide (x23_2 < (l0_1.length : Int)) = true := decide_eq_true c16
                  clear c16
                  by_cases c17 : x23_2 < (l1.length : Int)
                  · rw [if_pos c17] at H
                    have c17b0 : decide (x23_2 < (l1.length : Int)) = true := decide_eq_true c17
                    clear c17
                    by_cases c18 : (rd l1 x23_2) < 0
                    · rw [if_pos c18] at H
                      have c18b0 : decide ((rd l1 x23_2) < 0) = true := decide_eq_true c18
                      clear c18
                      simp only [Option.some.injEq, Prod.mk.injEq] at H
                      obtain ⟨rfl, rfl⟩ := H
                      have p328 : 0 ≤ (x23_2 : Int) := of_decide_eq_true (by first | (with_reducible assumption) | assumption)
                      have q328 : x23_2 < (l0_1.length : Int) := of_decide_eq_true (by first | (with_reducible assumption) | assumption)
                      obtain ⟨ad328, e328, hx328_0, hx328_1⟩ := at_T46 HR0_1.out x23_2 p328 q328
                      cases e328
                      replace hx328_0 := (HB.out.cell (World.block_lt_of_cell? w _ hx328_0)).trans hx328_0
                      replace hx328_1 := (HB.out.cell (World.block_lt_of_cell? w _ hx328_1)).trans hx328_1
                      replace p328 := eq_true p328
                      replace q328 := eq_true q328
                      go_wp2_with (first | ((with_reducible refine z18q (N := 8) rfl ?_); (try (refine z25q (by rfl) ?_; dsimp only)); refine z17q ?hg (N := 8) ?hd (cs := #[.int .i64 0, .int .i64 0]) (t := 46) ?hr ?_; (case hd => rfl); (case hg => rfl); (case hr => first | (go_simp; done) | (go_simp; rfl)); intro gb329 hg w19 hbox hb; have n0_ := Aside0.mk (z09q (g := gb326) (o := .cells #[.int .i64 a0_0, .slice (some ad328) l0_1.length c0_1] 24 (0, 0)) (by (with_reducible repeat (first | refine z06q ?_ _ | refine z07q ?_ | refine z05q ?_ _)); exact BK326.out) hb); have n1_ := Aside0.mk (z11q (by repeat (first | (with_reducible first | exact HB.out | apply z02q | apply z00q | apply z01q | refine z03q ?_ GE326.out) | exact HB.out)) hb); have n2_ := Aside0.mk (hbox); have n3_ := Aside0.mk ((by rw [hg]; exact (z10q (by repeat (first | (with_reducible first | exact HB.out | apply z02q | apply z00q | apply z01q | refine z03q ?_ GE326.out) | exact HB.out))) : w.heap.size ≤ gb329)); have n4_ := Aside0.mk ((by rw [hg]; exact (z10q (by repeat (first | (with_reducible first | exact HB.out | apply z02q | apply z00q | apply z01q | refine z03q ?_ GE326.out) | exact HB.out))) : w.heap.size ≤ gb329)); have n5_ := Aside0.mk ((by rw [hg]; exact Nat.ne_of_lt (blk_lt (g := gb326) (o := .cells #[.int .i64 a0_0, .slice (some ad328) l0_1.length c0_1] 24 (0, 0)) (by (with_reducible repeat (first | refine z06q ?_ _ | refine z07q ?_ | refine z05q ?_ _)); exact BK326.out)) : gb326 ≠ gb329)); have n6_ := Aside0.mk ((by rw [hg]; exact Nat.ne_of_gt (blk_lt (g := gb326) (o := .cells #[.int .i64 a0_0, .slice (some ad328) l0_1.length c0_1] 24 (0, 0)) (by (with_reducible repeat (first | refine z06q ?_ _ | refine z07q ?_ | refine z05q ?_ _)); exact BK326.out)) : gb329 ≠ gb326)); clear BK326; clear HB; have BK326 := n0_; have HB := n1_; have BK329 := n2_; have GW329 := n3_; have GE329 := n4_; have NB326_329 := n5_; have NB329_326 := n6_; clear n0_ n1_ n2_ n3_ n4_ n5_ n6_; clear hb hbox hg; have hnb20 := NB329_326.out; have hnc20 := NB326_329.out; have hcz21_0 : w19.cell? ⟨gb329, 0, none⟩ = some (.int .i64 0) := (z04q BK329.out 0).trans rfl; have hcz21_1 : w19.cell? ⟨gb329, 1, none⟩ = some (.int .i64 0) := (z04q BK329.out 1).trans rfl; have hfz21_0 := z08q BK329.out 0; have hfz21_1 := z08q BK329.out 1; have p330 : 0 ≤ (x23_2 : Int) := of_decide_eq_true (by first | (with_reducible assumption) | assumption); have q330 : x23_2 < (l1.length : Int) := of_decide_eq_true (by first | (with_reducible assumption) | assumption); obtain ⟨ad330, e330, hx330_0⟩ := Kd.at_int HR1.out x23_2 p330 q330; cases e330; have hn330_0 : ad330.block ≠ gb329 := Nat.ne_of_lt (Nat.lt_of_lt_of_le (by have := World.block_lt_of_cell? _ _ hx330_0; first | rwa [add_block] at this | exact this) GW329.out); have hn330_1 : ad330.block ≠ gb329 := Nat.ne_of_lt (Nat.lt_of_lt_of_le (by have := World.block_lt_of_cell? _ _ hx330_0; first | rwa [add_block] at this | exact this) GW329.out); replace hx330_0 := (HB.out.cell (World.block_lt_of_cell? w _ hx330_0)).trans hx330_0; replace hx330_0 := (cell_far (p := ⟨gb329, 0, none⟩) (by first | (rw [add_block]; exact hn330_0) | (show (Addr.add _ _).block ≠ _; rw [add_block]; exact hn330_0) | exact hn330_0) (.int .i64 ((rd_T46 l0_1 x23_2).f0))).trans hx330_0; replace hx330_0 := (cell_far (p := ⟨gb329, 1, none⟩) (by first | (rw [add_block]; exact hn330_1) | (show (Addr.add _ _).block ≠ _; rw [add_block]; exact hn330_1) | exact hn330_1) (.int .i64 ((rd_T46 l0_1 x23_2).f1))).trans hx330_0; (try have hy330_0 := fun (n_ : Nat) => (show ((((w19.drewN n_).setCell ⟨gb329, 0, none⟩ (.int .i64 ((rd_T46 l0_1 x23_2).f0))).setCell ⟨gb329, 1, none⟩ (.int .i64 ((rd_T46 l0_1 x23_2).f1)))).cell? _ = some _ from hx330_0)); clear hn330_0; clear hn330_1; replace p330 := eq_true p330; replace q330 := eq_true q330))
                      repeat (go_quiet (first | ((with_reducible refine z18q (N := 8) rfl ?_); (try (refine z25q (by rfl) ?_; dsimp only)); refine z17q ?hg (N := 8) ?hd (cs := #[.int .i64 0, .int .i64 0]) (t := 46) ?hr ?_; (case hd => rfl); (case hg => rfl); (case hr => first | (go_simp; done) | (go_simp; rfl)); intro gb329 hg w19 hbox hb; have n0_ := Aside0.mk (z09q (g := gb326) (o := .cells #[.int .i64 a0_0, .slice (some ad328) l0_1.length c0_1] 24 (0, 0)) (by (with_reducible repeat (first | refine z06q ?_ _ | refine z07q ?_ | refine z05q ?_ _)); exact BK326.out) hb); have n1_ := Aside0.mk (z11q (by repeat (first | (with_reducible first | exact HB.out | apply z02q | apply z00q | apply z01q | refine z03q ?_ GE326.out) | exact HB.out)) hb); have n2_ := Aside0.mk (hbox); have n3_ := Aside0.mk ((by rw [hg]; exact (z10q (by repeat (first | (with_reducible first | exact HB.out | apply z02q | apply z00q | apply z01q | refine z03q ?_ GE326.out) | exact HB.out))) : w.heap.size ≤ gb329)); have n4_ := Aside0.mk ((by rw [hg]; exact (z10q (by repeat (first | (with_reducible first | exact HB.out | apply z02q | apply z00q | apply z01q | refine z03q ?_ GE326.out) | exact HB.out))) : w.heap.size ≤ gb329)); have n5_ := Aside0.mk ((by rw [hg]; exact Nat.ne_of_lt (blk_lt (g := gb326) (o := .cells #[.int .i64 a0_0, .slice (some ad328) l0_1.length c0_1] 24 (0, 0)) (by (with_reducible repeat (first | refine z06q ?_ _ | refine z07q ?_ | refine z05q ?_ _)); exact BK326.out)) : gb326 ≠ gb329)); have n6_ := Aside0.mk ((by rw [hg]; exact Nat.ne_of_gt (blk_lt (g := gb326) (o := .cells #[.int .i64 a0_0, .slice (some ad328) l0_1.length c0_1] 24 (0, 0)) (by (with_reducible repeat (first | refine z06q ?_ _ | refine z07q ?_ | refine z05q ?_ _)); exact BK326.out)) : gb329 ≠ gb326)); clear BK326; clear HB; have BK326 := n0_; have HB := n1_; have BK329 := n2_; have GW329 := n3_; have GE329 := n4_; have NB326_329 := n5_; have NB329_326 := n6_; clear n0_ n1_ n2_ n3_ n4_ n5_ n6_; clear hb hbox hg; have hnb20 := NB329_326.out; have hnc20 := NB326_329.out; have hcz21_0 : w19.cell? ⟨gb329, 0, none⟩ = some (.int .i64 0) := (z04q BK329.out 0).trans rfl; have hcz21_1 : w19.cell? ⟨gb329, 1, none⟩ = some (.int .i64 0) := (z04q BK329.out 1).trans rfl; have hfz21_0 := z08q BK329.out 0; have hfz21_1 := z08q BK329.out 1; have p330 : 0 ≤ (x23_2 : Int) := of_decide_eq_true (by first | (with_reducible assumption) | assumption); have q330 : x23_2 < (l1.length : Int) := of_decide_eq_true (by first | (with_reducible assumption) | assumption); obtain ⟨ad330, e330, hx330_0⟩ := Kd.at_int HR1.out x23_2 p330 q330; cases e330; have hn330_0 : ad330.block ≠ gb329 := Nat.ne_of_lt (Nat.lt_of_lt_of_le (by have := World.block_lt_of_cell? _ _ hx330_0; first | rwa [add_block] at this | exact this) GW329.out); have hn330_1 : ad330.block ≠ gb329 := Nat.ne_of_lt (Nat.lt_of_lt_of_le (by have := World.block_lt_of_cell? _ _ hx330_0; first | rwa [add_block] at this | exact this) GW329.out); replace hx330_0 := (HB.out.cell (World.block_lt_of_cell? w _ hx330_0)).trans hx330_0; replace hx330_0 := (cell_far (p := ⟨gb329, 0, none⟩) (by first | (rw [add_block]; exact hn330_0) | (show (Addr.add _ _).block ≠ _; rw [add_block]; exact hn330_0) | exact hn330_0) (.int .i64 ((rd_T46 l0_1 x23_2).f0))).trans hx330_0; replace hx330_0 := (cell_far (p := ⟨gb329, 1, none⟩) (by first | (rw [add_block]; exact hn330_1) | (show (Addr.add _ _).block ≠ _; rw [add_block]; exact hn330_1) | exact hn330_1) (.int .i64 ((rd_T46 l0_1 x23_2).f1))).trans hx330_0; (try have hy330_0 := fun (n_ : Nat) => (show ((((w19.drewN n_).setCell ⟨gb329, 0, none⟩ (.int .i64 ((rd_T46 l0_1 x23_2).f0))).setCell ⟨gb329, 1, none⟩ (.int .i64 ((rd_T46 l0_1 x23_2).f1)))).cell? _ = some _ from hx330_0)); clear hn330_0; clear hn330_1; replace p330 := eq_true p330; replace q330 := eq_true q330)); try go_wp2_with (first | ((with_reducible refine z18q (N := 8) rfl ?_); (try (refine z25q (by rfl) ?_; dsimp only)); refine z17q ?hg (N := 8) ?hd (cs := #[.int .i64 0, .int .i64 0]) (t := 46) ?hr ?_; (case hd => rfl); (case hg => rfl); (case hr => first | (go_simp; done) | (go_simp; rfl)); intro gb329 hg w19 hbox hb; have n0_ := Aside0.mk (z09q (g := gb326) (o := .cells #[.int .i64 a0_0, .slice (some ad328) l0_1.length c0_1] 24 (0, 0)) (by (with_reducible repeat (first | refine z06q ?_ _ | refine z07q ?_ | refine z05q ?_ _)); exact BK326.out) hb); have n1_ := Aside0.mk (z11q (by repeat (first | (with_reducible first | exact HB.out | apply z02q | apply z00q | apply z01q | refine z03q ?_ GE326.out) | exact HB.out)) hb); have n2_ := Aside0.mk (hbox); have n3_ := Aside0.mk ((by rw [hg]; exact (z10q (by repeat (first | (with_reducible first | exact HB.out | apply z02q | apply z00q | apply z01q | refine z03q ?_ GE326.out) | exact HB.out))) : w.heap.size ≤ gb329)); have n4_ := Aside0.mk ((by rw [hg]; exact (z10q (by repeat (first | (with_reducible first | exact HB.out | apply z02q | apply z00q | apply z01q | refine z03q ?_ GE326.out) | exact HB.out))) : w.heap.size ≤ gb329)); have n5_ := Aside0.mk ((by rw [hg]; exact Nat.ne_of_lt (blk_lt (g := gb326) (o := .cells #[.int .i64 a0_0, .slice (some ad328) l0_1.length c0_1] 24 (0, 0)) (by (with_reducible repeat (first | refine z06q ?_ _ | refine z07q ?_ | refine z05q ?_ _)); exact BK326.out)) : gb326 ≠ gb329)); have n6_ := Aside0.mk ((by rw [hg]; exact Nat.ne_of_gt (blk_lt (g := gb326) (o := .cells #[.int .i64 a0_0, .slice (some ad328) l0_1.length c0_1] 24 (0, 0)) (by (with_reducible repeat (first | refine z06q ?_ _ | refine z07q ?_ | refine z05q ?_ _)); exact BK326.out)) : gb329 ≠ gb326)); clear BK326; clear HB; have BK326 := n0_; have HB := n1_; have BK329 := n2_; have GW329 := n3_; have GE329 := n4_; have NB326_329 := n5_; have NB329_326 := n6_; clear n0_ n1_ n2_ n3_ n4_ n5_ n6_; clear hb hbox hg; have hnb20 := NB329_326.out; have hnc20 := NB326_329.out; have hcz21_0 : w19.cell? ⟨gb329, 0, none⟩ = some (.int .i64 0) := (z04q BK329.out 0).trans rfl; have hcz21_1 : w19.cell? ⟨gb329, 1, none⟩ = some (.int .i64 0) := (z04q BK329.out 1).trans rfl; have hfz21_0 := z08q BK329.out 0; have hfz21_1 := z08q BK329.out 1; have p330 : 0 ≤ (x23_2 : Int) := of_decide_eq_true (by first | (with_reducible assumption) | assumption); have q330 : x23_2 < (l1.length : Int) := of_decide_eq_true (by first | (with_reducible assumption) | assumption); obtain ⟨ad330, e330, hx330_0⟩ := Kd.at_int HR1.out x23_2 p330 q330; cases e330; have hn330_0 : ad330.block ≠ gb329 := Nat.ne_of_lt (Nat.lt_of_lt_of_le (by have := World.block_lt_of_cell? _ _ hx330_0; first | rwa [add_block] at this | exact this) GW329.out); have hn330_1 : ad330.block ≠ gb329 := Nat.ne_of_lt (Nat.lt_of_lt_of_le (by have := World.block_lt_of_cell? _ _ hx330_0; first | rwa [add_block] at this | exact this) GW329.out); replace hx330_0 := (HB.out.cell (World.block_lt_of_cell? w _ hx330_0)).trans hx330_0; replace hx330_0 := (cell_far (p := ⟨gb329, 0, none⟩) (by first | (rw [add_block]; exact hn330_0) | (show (Addr.add _ _).block ≠ _; rw [add_block]; exact hn330_0) | exact hn330_0) (.int .i64 ((rd_T46 l0_1 x23_2).f0))).trans hx330_0; replace hx330_0 := (cell_far (p := ⟨gb329, 1, none⟩) (by first | (rw [add_block]; exact hn330_1) | (show (Addr.add _ _).block ≠ _; rw [add_block]; exact hn330_1) | exact hn330_1) (.int .i64 ((rd_T46 l0_1 x23_2).f1))).trans hx330_0; (try have hy330_0 := fun (n_ : Nat) => (show ((((w19.drewN n_).setCell ⟨gb329, 0, none⟩ (.int .i64 ((rd_T46 l0_1 x23_2).f0))).setCell ⟨gb329, 1, none⟩ (.int .i64 ((rd_T46 l0_1 x23_2).f1)))).cell? _ = some _ from hx330_0)); clear hn330_0; clear hn330_1; replace p330 := eq_true p330; replace q330 := eq_true q330)))
                      go_ret2
                      exact ⟨by first | rfl | (simp [z14q, z13q] <;> rfl) | (simp [*, z14q, z13q] <;> rfl), by repeat (first | (with_reducible first | exact HB.out | apply z02q | apply z00q | apply z01q | refine z03q ?_ GE326.out | refine z03q ?_ GE329.out) | exact HB.out)⟩
                    · rw [if_neg c18] at H
                      have c18b0 : decide ((rd l1 x23_2) < 0) = false := decide_eq_false c18
                      clear c18
                      by_cases c22 : (rd l1 x23_2) > ((rd_T46 l0_1 x23_2).f1)
                      · rw [if_pos c22] at H
                        have c22b0 : decide (((rd_T46 l0_1 x23_2).f1) < (rd l1 x23_2)) = true := decide_eq_true c22
                        clear c22
                        simp only [Option.some.injEq, Prod.mk.injEq] at H
                        obtain ⟨rfl, rfl⟩ := H
                        have p328 : 0 ≤ (x23_2 : Int) := of_decide_eq_true (by first | (with_reducible assumption) | assumption)
                        have q328 : x23_2 < (l0_1.length : Int) := of_decide_eq_true (by first | (with_reducible assumption) | assumption)
                        obtain ⟨ad328, e328, hx328_0, hx328_1⟩ := at_T46 HR0_1.out x23_2 p328 q328
                        cases e328
                        replace hx328_0 := (HB.out.cell (World.block_lt_of_cell? w _ hx328_0)).trans hx328_0
                        replace hx328_1 := (HB.out.cell (World.block_lt_of_cell? w _ hx328_1)).trans hx328_1
                        replace p328 := eq_true p328
                        replace q328 := eq_true q328
                        go_wp2_with (first | ((with_reducible refine z18q (N := 8) rfl ?_); (try (refine z25q (by rfl) ?_; dsimp only)); refine z17q ?hg (N := 8) ?hd (cs := #[.int .i64 0, .int .i64 0]) (t := 46) ?hr ?_; (case hd => rfl); (case hg => rfl); (case hr => first | (go_simp; done) | (go_simp; rfl)); intro gb329 hg w23 hbox hb; have n0_ := Aside0.mk (z09q (g := gb326) (o := .cells #[.int .i64 a0_0, .slice (some ad328) l0_1.length c0_1] 24 (0, 0)) (by (with_reducible repeat (first | refine z06q ?_ _ | refine z07q ?_ | refine z05q ?_ _)); exact BK326.out) hb); have n1_ := Aside0.mk (z11q (by repeat (first | (with_reducible first | exact HB.out | apply z02q | apply z00q | apply z01q | refine z03q ?_ GE326.out) | exact HB.out)) hb); have n2_ := Aside0.mk (hbox); have n3_ := Aside0.mk ((by rw [hg]; exact (z10q (by repeat (first | (with_reducible first | exact HB.out | apply z02q | apply z00q | apply z01q | refine z03q ?_ GE326.out) | exact HB.out))) : w.heap.size ≤ gb329)); have n4_ := Aside0.mk ((by rw [hg]; exact (z10q (by repeat (first | (with_reducible first | exact HB.out | apply z02q | apply z00q | apply z01q | refine z03q ?_ GE326.out) | exact HB.out))) : w.heap.size ≤ gb329)); have n5_ := Aside0.mk ((by rw [hg]; exact Nat.ne_of_lt (blk_lt (g := gb326) (o := .cells #[.int .i64 a0_0, .slice (some ad328) l0_1.length c0_1] 24 (0, 0)) (by (with_reducible repeat (first | refine z06q ?_ _ | refine z07q ?_ | refine z05q ?_ _)); exact BK326.out)) : gb326 ≠ gb329)); have n6_ := Aside0.mk ((by rw [hg]; exact Nat.ne_of_gt (blk_lt (g := gb326) (o := .cells #[.int .i64 a0_0, .slice (some ad328) l0_1.length c0_1] 24 (0, 0)) (by (with_reducible repeat (first | refine z06q ?_ _ | refine z07q ?_ | refine z05q ?_ _)); exact BK326.out)) : gb329 ≠ gb326)); clear BK326; clear HB; have BK326 := n0_; have HB := n1_; have BK329 := n2_; have GW329 := n3_; have GE329 := n4_; have NB326_329 := n5_; have NB329_326 := n6_; clear n0_ n1_ n2_ n3_ n4_ n5_ n6_; clear hb hbox hg; have hnb24 := NB329_326.out; have hnc24 := NB326_329.out; have hcz25_0 : w23.cell? ⟨gb329, 0, none⟩ = some (.int .i64 0) := (z04q BK329.out 0).trans rfl; have hcz25_1 : w23.cell? ⟨gb329, 1, none⟩ = some (.int .i64 0) := (z04q BK329.out 1).trans rfl; have hfz25_0 := z08q BK329.out 0; have hfz25_1 := z08q BK329.out 1; have p330 : 0 ≤ (x23_2 : Int) := of_decide_eq_true (by first | (with_reducible assumption) | assumption); have q330 : x23_2 < (l1.length : Int) := of_decide_eq_true (by first | (with_reducible assumption) | assumption); obtain ⟨ad330, e330, hx330_0⟩ := Kd.at_int HR1.out x23_2 p330 q330; cases e330; have hn330_0 : ad330.block ≠ gb329 := Nat.ne_of_lt (Nat.lt_of_lt_of_le (by have := World.block_lt_of_cell? _ _ hx330_0; first | rwa [add_block] at this | exact this) GW329.out); have hn330_1 : ad330.block ≠ gb329 := Nat.ne_of_lt (Nat.lt_of_lt_of_le (by have := World.block_lt_of_cell? _ _ hx330_0; first | rwa [add_block] at this | exact this) GW329.out); replace hx330_0 := (HB.out.cell (World.block_lt_of_cell? w _ hx330_0)).trans hx330_0; replace hx330_0 := (cell_far (p := ⟨gb329, 0, none⟩) (by first | (rw [add_block]; exact hn330_0) | (show (Addr.add _ _).block ≠ _; rw [add_block]; exact hn330_0) | exact hn330_0) (.int .i64 ((rd_T46 l0_1 x23_2).f0))).trans hx330_0; replace hx330_0 := (cell_far (p := ⟨gb329, 1, none⟩) (by first | (rw [add_block]; exact hn330_1) | (show (Addr.add _ _).block ≠ _; rw [add_block]; exact hn330_1) | exact hn330_1) (.int .i64 ((rd_T46 l0_1 x23_2).f1))).trans hx330_0; (try have hy330_0 := fun (n_ : Nat) => (show ((((w23.drewN n_).setCell ⟨gb329, 0, none⟩ (.int .i64 ((rd_T46 l0_1 x23_2).f0))).setCell ⟨gb329, 1, none⟩ (.int .i64 ((rd_T46 l0_1 x23_2).f1)))).cell? _ = some _ from hx330_0)); clear hn330_0; clear hn330_1; replace p330 := eq_true p330; replace q330 := eq_true q330; have p331 : 0 ≤ (x23_2 : Int) := of_decide_eq_true (by first | (with_reducible assumption) | assumption); have q331 : x23_2 < (l1.length : Int) := of_decide_eq_true (by first | (with_reducible assumption) | assumption); obtain ⟨ad331, e331, hx331_0⟩ := Kd.at_int HR1.out x23_2 p331 q331; obtain rfl : ad330 = ad331 := (by injection e331); have hn331_0 : ad330.block ≠ gb329 := Nat.ne_of_lt (Nat.lt_of_lt_of_le (by have := World.block_lt_of_cell? _ _ hx331_0; first | rwa [add_block] at this | exact this) GW329.out); have hn331_1 : ad330.block ≠ gb329 := Nat.ne_of_lt (Nat.lt_of_lt_of_le (by have := World.block_lt_of_cell? _ _ hx331_0; first | rwa [add_block] at this | exact this) GW329.out); replace hx331_0 := (HB.out.cell (World.block_lt_of_cell? w _ hx331_0)).trans hx331_0; replace hx331_0 := (cell_far (p := ⟨gb329, 0, none⟩) (by first | (rw [add_block]; exact hn331_0) | (show (Addr.add _ _).block ≠ _; rw [add_block]; exact hn331_0) | exact hn331_0) (.int .i64 ((rd_T46 l0_1 x23_2).f0))).trans hx331_0; replace hx331_0 := (cell_far (p := ⟨gb329, 1, none⟩) (by first | (rw [add_block]; exact hn331_1) | (show (Addr.add _ _).block ≠ _; rw [add_block]; exact hn331_1) | exact hn331_1) (.int .i64 ((rd_T46 l0_1 x23_2).f1))).trans hx331_0; (try have hy331_0 := fun (n_ : Nat) => (show ((((w23.drewN n_).setCell ⟨gb329, 0, none⟩ (.int .i64 ((rd_T46 l0_1 x23_2).f0))).setCell ⟨gb329, 1, none⟩ (.int .i64 ((rd_T46 l0_1 x23_2).f1)))).cell? _ = some _ from hx331_0)); clear hn331_0; clear hn331_1; replace p331 := eq_true p331; replace q331 := eq_true q331))
                        repeat (go_quiet (first | ((with_reducible refine z18q (N := 8) rfl ?_); (try (refine z25q (by rfl) ?_; dsimp only)); refine z17q ?hg (N := 8) ?hd (cs := #[.int .i64 0, .int .i64 0]) (t := 46) ?hr ?_; (case hd => rfl); (case hg => rfl); (case hr => first | (go_simp; done) | (go_simp; rfl)); intro gb329 hg w23 hbox hb; have n0_ := Aside0.mk (z09q (g := gb326) (o := .cells #[.int .i64 a0_0, .slice (some ad328) l0_1.length c0_1] 24 (0, 0)) (by (with_reducible repeat (first | refine z06q ?_ _ | refine z07q ?_ | refine z05q ?_ _)); exact BK326.out) hb); have n1_ := Aside0.mk (z11q (by repeat (first | (with_reducible first | exact HB.out | apply z02q | apply z00q | apply z01q | refine z03q ?_ GE326.out) | exact HB.out)) hb); have n2_ := Aside0.mk (hbox); have n3_ := Aside0.mk ((by rw [hg]; exact (z10q (by repeat (first | (with_reducible first | exact HB.out | apply z02q | apply z00q | apply z01q | refine z03q ?_ GE326.out) | exact HB.out))) : w.heap.size ≤ gb329)); have n4_ := Aside0.mk ((by rw [hg]; exact (z10q (by repeat (first | (with_reducible first | exact HB.out | apply z02q | apply z00q | apply z01q | refine z03q ?_ GE326.out) | exact HB.out))) : w.heap.size ≤ gb329)); have n5_ := Aside0.mk ((by rw [hg]; exact Nat.ne_of_lt (blk_lt (g := gb326) (o := .cells #[.int .i64 a0_0, .slice (some ad328) l0_1.length c0_1] 24 (0, 0)) (by (with_reducible repeat (first | refine z06q ?_ _ | refine z07q ?_ | refine z05q ?_ _)); exact BK326.out)) : gb326 ≠ gb329)); have n6_ := Aside0.mk ((by rw [hg]; exact Nat.ne_of_gt (blk_lt (g := gb326) (o := .cells #[.int .i64 a0_0, .slice (some ad328) l0_1.length c0_1] 24 (0, 0)) (by (with_reducible repeat (first | refine z06q ?_ _ | refine z07q ?_ | refine z05q ?_ _)); exact BK326.out)) : gb329 ≠ gb326)); clear BK326; clear HB; have BK326 := n0_; have HB := n1_; have BK329 := n2_; have GW329 := n3_; have GE329 := n4_; have NB326_329 := n5_; have NB329_326 := n6_; clear n0_ n1_ n2_ n3_ n4_ n5_ n6_; clear hb hbox hg; have hnb24 := NB329_326.out; have hnc24 := NB326_329.out; have hcz25_0 : w23.cell? ⟨gb329, 0, none⟩ = some (.int .i64 0) := (z04q BK329.out 0).trans rfl; have hcz25_1 : w23.cell? ⟨gb329, 1, none⟩ = some (.int .i64 0) := (z04q BK329.out 1).trans rfl; have hfz25_0 := z08q BK329.out 0; have hfz25_1 := z08q BK329.out 1; have p330 : 0 ≤ (x23_2 : Int) := of_decide_eq_true (by first | (with_reducible assumption) | assumption); have q330 : x23_2 < (l1.length : Int) := of_decide_eq_true (by first | (with_reducible assumption) | assumption); obtain ⟨ad330, e330, hx330_0⟩ := Kd.at_int HR1.out x23_2 p330 q330; cases e330; have hn330_0 : ad330.block ≠ gb329 := Nat.ne_of_lt (Nat.lt_of_lt_of_le (by have := World.block_lt_of_cell? _ _ hx330_0; first | rwa [add_block] at this | exact this) GW329.out); have hn330_1 : ad330.block ≠ gb329 := Nat.ne_of_lt (Nat.lt_of_lt_of_le (by have := World.block_lt_of_cell? _ _ hx330_0; first | rwa [add_block] at this | exact this) GW329.out); replace hx330_0 := (HB.out.cell (World.block_lt_of_cell? w _ hx330_0)).trans hx330_0; replace hx330_0 := (cell_far (p := ⟨gb329, 0, none⟩) (by first | (rw [add_block]; exact hn330_0) | (show (Addr.add _ _).block ≠ _; rw [add_block]; exact hn330_0) | exact hn330_0) (.int .i64 ((rd_T46 l0_1 x23_2).f0))).trans hx330_0; replace hx330_0 := (cell_far (p := ⟨gb329, 1, none⟩) (by first | (rw [add_block]; exact hn330_1) | (show (Addr.add _ _).block ≠ _; rw [add_block]; exact hn330_1) | exact hn330_1) (.int .i64 ((rd_T46 l0_1 x23_2).f1))).trans hx330_0; (try have hy330_0 := fun (n_ : Nat) => (show ((((w23.drewN n_).setCell ⟨gb329, 0, none⟩ (.int .i64 ((rd_T46 l0_1 x23_2).f0))).setCell ⟨gb329, 1, none⟩ (.int .i64 ((rd_T46 l0_1 x23_2).f1)))).cell? _ = some _ from hx330_0)); clear hn330_0; clear hn330_1; replace p330 := eq_true p330; replace q330 := eq_true q330; have p331 : 0 ≤ (x23_2 : Int) := of_decide_eq_true (by first | (with_reducible assumption) | assumption); have q331 : x23_2 < (l1.length : Int) := of_decide_eq_true (by first | (with_reducible assumption) | assumption); obtain ⟨ad331, e331, hx331_0⟩ := Kd.at_int HR1.out x23_2 p331 q331; obtain rfl : ad330 = ad331 := (by injection e331); have hn331_0 : ad330.block ≠ gb329 := Nat.ne_of_lt (Nat.lt_of_lt_of_le (by have := World.block_lt_of_cell? _ _ hx331_0; first | rwa [add_block] at this | exact this) GW329.out); have hn331_1 : ad330.block ≠ gb329 := Nat.ne_of_lt (Nat.lt_of_lt_of_le (by have := World.block_lt_of_cell? _ _ hx331_0; first | rwa [add_block] at this | exact this) GW329.out); replace hx331_0 := (HB.out.cell (World.block_lt_of_cell? w _ hx331_0)).trans hx331_0; replace hx331_0 := (cell_far (p := ⟨gb329, 0, none⟩) (by first | (rw [add_block]; exact hn331_0) | (show (Addr.add _ _).block ≠ _; rw [add_block]; exact hn331_0) | exact hn331_0) (.int .i64 ((rd_T46 l0_1 x23_2).f0))).trans hx331_0; replace hx331_0 := (cell_far (p := ⟨gb329, 1, none⟩) (by first | (rw [add_block]; exact hn331_1) | (show (Addr.add _ _).block ≠ _; rw [add_block]; exact hn331_1) | exact hn331_1) (.int .i64 ((rd_T46 l0_1 x23_2).f1))).trans hx331_0; (try have hy331_0 := fun (n_ : Nat) => (show ((((w23.drewN n_).setCell ⟨gb329, 0, none⟩ (.int .i64 ((rd_T46 l0_1 x23_2).f0))).setCell ⟨gb329, 1, none⟩ (.int .i64 ((rd_T46 l0_1 x23_2).f1)))).cell? _ = some _ from hx331_0)); clear hn331_0; clear hn331_1; replace p331 := eq_true p331; replace q331 := eq_true q331)); try go_wp2_with (first | ((with_reducible refine z18q (N := 8) rfl ?_); (try (refine z25q (by rfl) ?_; dsimp only)); refine z17q ?hg (N := 8) ?hd (cs := #[.int .i64 0, .int .i64 0]) (t := 46) ?hr ?_; (case hd => rfl); (case hg => rfl); (case hr => first | (go_simp; done) | (go_simp; rfl)); intro gb329 hg w23 hbox hb; have n0_ := Aside0.mk (z09q (g := gb326) (o := .cells #[.int .i64 a0_0, .slice (some ad328) l0_1.length c0_1] 24 (0, 0)) (by (with_reducible repeat (first | refine z06q ?_ _ | refine z07q ?_ | refine z05q ?_ _)); exact BK326.out) hb); have n1_ := Aside0.mk (z11q (by repeat (first | (with_reducible first | exact HB.out | apply z02q | apply z00q | apply z01q | refine z03q ?_ GE326.out) | exact HB.out)) hb); have n2_ := Aside0.mk (hbox); have n3_ := Aside0.mk ((by rw [hg]; exact (z10q (by repeat (first | (with_reducible first | exact HB.out | apply z02q | apply z00q | apply z01q | refine z03q ?_ GE326.out) | exact HB.out))) : w.heap.size ≤ gb329)); have n4_ := Aside0.mk ((by rw [hg]; exact (z10q (by repeat (first | (with_reducible first | exact HB.out | apply z02q | apply z00q | apply z01q | refine z03q ?_ GE326.out) | exact HB.out))) : w.heap.size ≤ gb329)); have n5_ := Aside0.mk ((by rw [hg]; exact Nat.ne_of_lt (blk_lt (g := gb326) (o := .cells #[.int .i64 a0_0, .slice (some ad328) l0_1.length c0_1] 24 (0, 0)) (by (with_reducible repeat (first | refine z06q ?_ _ | refine z07q ?_ | refine z05q ?_ _)); exact BK326.out)) : gb326 ≠ gb329)); have n6_ := Aside0.mk ((by rw [hg]; exact Nat.ne_of_gt (blk_lt (g := gb326) (o := .cells #[.int .i64 a0_0, .slice (some ad328) l0_1.length c0_1] 24 (0, 0)) (by (with_reducible repeat (first | refine z06q ?_ _ | refine z07q ?_ | refine z05q ?_ _)); exact BK326.out)) : gb329 ≠ gb326)); clear BK326; clear HB; have BK326 := n0_; have HB := n1_; have BK329 := n2_; have GW329 := n3_; have GE329 := n4_; have NB326_329 := n5_; have NB329_326 := n6_; clear n0_ n1_ n2_ n3_ n4_ n5_ n6_; clear hb hbox hg; have hnb24 := NB329_326.out; have hnc24 := NB326_329.out; have hcz25_0 : w23.cell? ⟨gb329, 0, none⟩ = some (.int .i64 0) := (z04q BK329.out 0).trans rfl; have hcz25_1 : w23.cell? ⟨gb329, 1, none⟩ = some (.int .i64 0) := (z04q BK329.out 1).trans rfl; have hfz25_0 := z08q BK329.out 0; have hfz25_1 := z08q BK329.out 1; have p330 : 0 ≤ (x23_2 : Int) := of_decide_eq_true (by first | (with_reducible assumption) | assumption); have q330 : x23_2 < (l1.length : Int) := of_decide_eq_true (by first | (with_reducible assumption) | assumption); obtain ⟨ad330, e330, hx330_0⟩ := Kd.at_int HR1.out x23_2 p330 q330; cases e330; have hn330_0 : ad330.block ≠ gb329 := Nat.ne_of_lt (Nat.lt_of_lt_of_le (by have := World.block_lt_of_cell? _ _ hx330_0; first | rwa [add_block] at this | exact this) GW329.out); have hn330_1 : ad330.block ≠ gb329 := Nat.ne_of_lt (Nat.lt_of_lt_of_le (by have := World.block_lt_of_cell? _ _ hx330_0; first | rwa [add_block] at this | exact this) GW329.out); replace hx330_0 := (HB.out.cell (World.block_lt_of_cell? w _ hx330_0)).trans hx330_0; replace hx330_0 := (cell_far (p := ⟨gb329, 0, none⟩) (by first | (rw [add_block]; exact hn330_0) | (show (Addr.add _ _).block ≠ _; rw [add_block]; exact hn330_0) | exact hn330_0) (.int .i64 ((rd_T46 l0_1 x23_2).f0))).trans hx330_0; replace hx330_0 := (cell_far (p := ⟨gb329, 1, none⟩) (by first | (rw [add_block]; exact hn330_1) | (show (Addr.add _ _).block ≠ _; rw [add_block]; exact hn330_1) | exact hn330_1) (.int .i64 ((rd_T46 l0_1 x23_2).f1))).trans hx330_0; (try have hy330_0 := fun (n_ : Nat) => (show ((((w23.drewN n_).setCell ⟨gb329, 0, none⟩ (.int .i64 ((rd_T46 l0_1 x23_2).f0))).setCell ⟨gb329, 1, none⟩ (.int .i64 ((rd_T46 l0_1 x23_2).f1)))).cell? _ = some _ from hx330_0)); clear hn330_0; clear hn330_1; replace p330 := eq_true p330; replace q330 := eq_true q330; have p331 : 0 ≤ (x23_2 : Int) := of_decide_eq_true (by first | (with_reducible assumption) | assumption); have q331 : x23_2 < (l1.length : Int) := of_decide_eq_true (by first | (with_reducible assumption) | assumption); obtain ⟨ad331, e331, hx331_0⟩ := Kd.at_int HR1.out x23_2 p331 q331; obtain rfl : ad330 = ad331 := (by injection e331); have hn331_0 : ad330.block ≠ gb329 := Nat.ne_of_lt (Nat.lt_of_lt_of_le (by have := World.block_lt_of_cell? _ _ hx331_0; first | rwa [add_block] at this | exact this) GW329.out); have hn331_1 : ad330.block ≠ gb329 := Nat.ne_of_lt (Nat.lt_of_lt_of_le (by have := World.block_lt_of_cell? _ _ hx331_0; first | rwa [add_block] at this | exact this) GW329.out); replace hx331_0 := (HB.out.cell (World.block_lt_of_cell? w _ hx331_0)).trans hx331_0; replace hx331_0 := (cell_far (p := ⟨gb329, 0, none⟩) (by first | (rw [add_block]; exact hn331_0) | (show (Addr.add _ _).block ≠ _; rw [add_block]; exact hn331_0) | exact hn331_0) (.int .i64 ((rd_T46 l0_1 x23_2).f0))).trans hx331_0; replace hx331_0 := (cell_far (p := ⟨gb329, 1, none⟩) (by first | (rw [add_block]; exact hn331_1) | (show (Addr.add _ _).block ≠ _; rw [add_block]; exact hn331_1) | exact hn331_1) (.int .i64 ((rd_T46 l0_1 x23_2).f1))).trans hx331_0; (try have hy331_0 := fun (n_ : Nat) => (show ((((w23.drewN n_).setCell ⟨gb329, 0, none⟩ (.int .i64 ((rd_T46 l0_1 x23_2).f0))).setCell ⟨gb329, 1, none⟩ (.int .i64 ((rd_T46 l0_1 x23_2).f1)))).cell? _ = some _ from hx331_0)); clear hn331_0; clear hn331_1; replace p331 := eq_true p331; replace q331 := eq_true q331)))
                        go_ret2
                        exact ⟨by first | rfl | (simp [z14q, z13q] <;> rfl) | (simp [*, z14q, z13q] <;> rfl), by repeat (first | (with_reducible first | exact HB.out | apply z02q | apply z00q | apply z01q | refine z03q ?_ GE326.out | refine z03q ?_ GE329.out) | exact HB.out)⟩
                      · rw [if_neg c22] at H
                        have c22b0 : decide (((rd_T46 l0_1 x23_2).f1) < (rd l1 x23_2)) = false := decide_eq_false c22
                        clear c22
                        have H' := Aside0.mk H
                        clear H
                        have p328 : 0 ≤ (x23_2 : Int) := of_decide_eq_true (by first | (with_reducible assumption) | assumption)
                        have q328 : x23_2 < (l0_1.length : Int) := of_decide_eq_true (by first | (with_reducible assumption) | assumption)
                        obtain ⟨ad328, e328, hx328_0, hx328_1⟩ := at_T46 HR0_1.out x23_2 p328 q328
                        cases e328
                        replace hx328_0 := (HB.out.cell (World.block_lt_of_cell? w _ hx328_0)).trans hx328_0
                        replace hx328_1 := (HB.out.cell (World.block_lt_of_cell? w _ hx328_1)).trans hx328_1
                        replace p328 := eq_true p328
                        replace q328 := eq_true q328
                        go_wp2_with (first | ((with_reducible refine z18q (N := 8) rfl ?_); (try (refine z25q (by rfl) ?_; dsimp only)); refine z17q ?hg (N := 8) ?hd (cs := #[.int .i64 0, .int .i64 0]) (t := 46) ?hr ?_; (case hd => rfl); (case hg => rfl); (case hr => first | (go_simp; done) | (go_simp; rfl)); intro gb329 hg w26 hbox hb; have n0_ := Aside0.mk (z09q (g := gb326) (o := .cells #[.int .i64 a0_0, .slice (some ad328) l0_1.length c0_1] 24 (0, 0)) (by (with_reducible repeat (first | refine z06q ?_ _ | refine z07q ?_ | refine z05q ?_ _)); exact BK326.out) hb); have n1_ := Aside0.mk (z11q (by repeat (first | (with_reducible first | exact HB.out | apply z02q | apply z00q | apply z01q | refine z03q ?_ GE326.out) | exact HB.out)) hb); have n2_ := Aside0.mk (hbox); have n3_ := Aside0.mk ((by rw [hg]; exact (z10q (by repeat (first | (with_reducible first | exact HB.out | apply z02q | apply z00q | apply z01q | refine z03q ?_ GE326.out) | exact HB.out))) : w.heap.size ≤ gb329)); have n4_ := Aside0.mk ((by rw [hg]; exact (z10q (by repeat (first | (with_reducible first | exact HB.out | apply z02q | apply z00q | apply z01q | refine z03q ?_ GE326.out) | exact HB.out))) : w.heap.size ≤ gb329)); have n5_ := Aside0.mk ((by rw [hg]; exact Nat.ne_of_lt (blk_lt (g := gb326) (o := .cells #[.int .i64 a0_0, .slice (some ad328) l0_1.length c0_1] 24 (0, 0)) (by (with_reducible repeat (first | refine z06q ?_ _ | refine z07q ?_ | refine z05q ?_ _)); exact BK326.out)) : gb326 ≠ gb329)); have n6_ := Aside0.mk ((by rw [hg]; exact Nat.ne_of_gt (blk_lt (g := gb326) (o := .cells #[.int .i64 a0_0, .slice (some ad328) l0_1.length c0_1] 24 (0, 0)) (by (with_reducible repeat (first | refine z06q ?_ _ | refine z07q ?_ | refine z05q ?_ _)); exact BK326.out)) : gb329 ≠ gb326)); clear BK326; clear HB; have BK326 := n0_; have HB := n1_; have BK329 := n2_; have GW329 := n3_; have GE329 := n4_; have NB326_329 := n5_; have NB329_326 := n6_; clear n0_ n1_ n2_ n3_ n4_ n5_ n6_; clear hb hbox hg; have hnb27 := NB329_326.out; have hnc27 := NB326_329.out; have hcz28_0 : w26.cell? ⟨gb329, 0, none⟩ = some (.int .i64 0) := (z04q BK329.out 0).trans rfl; have hcz28_1 : w26.cell? ⟨gb329, 1, none⟩ = some (.int .i64 0) := (z04q BK329.out 1).trans rfl; have hfz28_0 := z08q BK329.out 0; have hfz28_1 := z08q BK329.out 1; have p330 : 0 ≤ (x23_2 : Int) := of_decide_eq_true (by first | (with_reducible assumption) | assumption); have q330 : x23_2 < (l1.length : Int) := of_decide_eq_true (by first | (with_reducible assumption) | assumption); obtain ⟨ad330, e330, hx330_0⟩ := Kd.at_int HR1.out x23_2 p330 q330; cases e330; have hn330_0 : ad330.block ≠ gb329 := Nat.ne_of_lt (Nat.lt_of_lt_of_le (by have := World.block_lt_of_cell? _ _ hx330_0; first | rwa [add_block] at this | exact this) GW329.out); have hn330_1 : ad330.block ≠ gb329 := Nat.ne_of_lt (Nat.lt_of_lt_of_le (by have := World.block_lt_of_cell? _ _ hx330_0; first | rwa [add_block] at this | exact this) GW329.out); replace hx330_0 := (HB.out.cell (World.block_lt_of_cell? w _ hx330_0)).trans hx330_0; replace hx330_0 := (cell_far (p := ⟨gb329, 0, none⟩) (by first | (rw [add_block]; exact hn330_0) | (show (Addr.add _ _).block ≠ _; rw [add_block]; exact hn330_0) | exact hn330_0) (.int .i64 ((rd_T46 l0_1 x23_2).f0))).trans hx330_0; replace hx330_0 := (cell_far (p := ⟨gb329, 1, none⟩) (by first | (rw [add_block]; exact hn330_1) | (show (Addr.add _ _).block ≠ _; rw [add_block]; exact hn330_1) | exact hn330_1) (.int .i64 ((rd_T46 l0_1 x23_2).f1))).trans hx330_0; (try have hy330_0 := fun (n_ : Nat) => (show ((((w26.drewN n_).setCell ⟨gb329, 0, none⟩ (.int .i64 ((rd_T46 l0_1 x23_2).f0))).setCell ⟨gb329, 1, none⟩ (.int .i64 ((rd_T46 l0_1 x23_2).f1)))).cell? _ = some _ from hx330_0)); clear hn330_0; clear hn330_1; replace p330 := eq_true p330; replace q330 := eq_true q330; have p331 : 0 ≤ (x23_2 : Int) := of_decide_eq_true (by first | (with_reducible assumption) | assumption); have q331 : x23_2 < (l1.length : Int) := of_decide_eq_true (by first | (with_reducible assumption) | assumption); obtain ⟨ad331, e331, hx331_0⟩ := Kd.at_int HR1.out x23_2 p331 q331; obtain rfl : ad330 = ad331 := (by injection e331); have hn331_0 : ad330.block ≠ gb329 := Nat.ne_of_lt (Nat.lt_of_lt_of_le (by have := World.block_lt_of_cell? _ _ hx331_0; first | rwa [add_block] at this | exact this) GW329.out); have hn331_1 : ad330.block ≠ gb329 := Nat.ne_of_lt (Nat.lt_of_lt_of_le (by have := World.block_lt_of_cell? _ _ hx331_0; first | rwa [add_block] at this | exact this) GW329.out); replace hx331_0 := (HB.out.cell (World.block_lt_of_cell? w _ hx331_0)).trans hx331_0; replace hx331_0 := (cell_far (p := ⟨gb329, 0, none⟩) (by first | (rw [add_block]; exact hn331_0) | (show (Addr.add _ _).block ≠ _; rw [add_block]; exact hn331_0) | exact hn331_0) (.int .i64 ((rd_T46 l0_1 x23_2).f0))).trans hx331_0; replace hx331_0 := (cell_far (p := ⟨gb329, 1, none⟩) (by first | (rw [add_block]; exact hn331_1) | (show (Addr.add _ _).block ≠ _; rw [add_block]; exact hn331_1) | exact hn331_1) (.int .i64 ((rd_T46 l0_1 x23_2).f1))).trans hx331_0; (try have hy331_0 := fun (n_ : Nat) => (show ((((w26.drewN n_).setCell ⟨gb329, 0, none⟩ (.int .i64 ((rd_T46 l0_1 x23_2).f0))).setCell ⟨gb329, 1, none⟩ (.int .i64 ((rd_T46 l0_1 x23_2).f1)))).cell? _ = some _ from hx331_0)); clear hn331_0; clear hn331_1; replace p331 := eq_true p331; replace q331 := eq_true q331; have p332 : 0 ≤ (x23_2 : Int) := of_decide_eq_true (by first | (with_reducible assumption) | assumption); have q332 : x23_2 < (l1.length : Int) := of_decide_eq_true (by first | (with_reducible assumption) | assumption); obtain ⟨ad332, e332, hx332_0⟩ := Kd.at_int HR1.out x23_2 p332 q332; obtain rfl : ad330 = ad332 := (by injection e332); have hn332_0 : ad330.block ≠ gb329 := Nat.ne_of_lt (Nat.lt_of_lt_of_le (by have := World.block_lt_of_cell? _ _ hx332_0; first | rwa [add_block] at this | exact this) GW329.out); have hn332_1 : ad330.block ≠ gb329 := Nat.ne_of_lt (Nat.lt_of_lt_of_le (by have := World.block_lt_of_cell? _ _ hx332_0; first | rwa [add_block] at this | exact this) GW329.out); replace hx332_0 := (HB.out.cell (World.block_lt_of_cell? w _ hx332_0)).trans hx332_0; replace hx332_0 := (cell_far (p := ⟨gb329, 0, none⟩) (by first | (rw [add_block]; exact hn332_0) | (show (Addr.add _ _).block ≠ _; rw [add_block]; exact hn332_0) | exact hn332_0) (.int .i64 ((rd_T46 l0_1 x23_2).f0))).trans hx332_0; replace hx332_0 := (cell_far (p := ⟨gb329, 1, none⟩) (by first | (rw [add_block]; exact hn332_1) | (show (Addr.add _ _).block ≠ _; rw [add_block]; exact hn332_1) | exact hn332_1) (.int .i64 ((rd_T46 l0_1 x23_2).f1))).trans hx332_0; (try have hy332_0 := fun (n_ : Nat) => (show ((((w26.drewN n_).setCell ⟨gb329, 0, none⟩ (.int .i64 ((rd_T46 l0_1 x23_2).f0))).setCell ⟨gb329, 1, none⟩ (.int .i64 ((rd_T46 l0_1 x23_2).f1)))).cell? _ = some _ from hx332_0)); clear hn332_0; clear hn332_1; replace p332 := eq_true p332; replace q332 := eq_true q332))
                        repeat (go_quiet (first | ((with_reducible refine z18q (N := 8) rfl ?_); (try (refine z25q (by rfl) ?_; dsimp only)); refine z17q ?hg (N := 8) ?hd (cs := #[.int .i64 0, .int .i64 0]) (t := 46) ?hr ?_; (case hd => rfl); (case hg => rfl); (case hr => first | (go_simp; done) | (go_simp; rfl)); intro gb329 hg w26 hbox hb; have n0_ := Aside0.mk (z09q (g := gb326) (o := .cells #[.int .i64 a0_0, .slice (some ad328) l0_1.length c0_1] 24 (0, 0)) (by (with_reducible repeat (first | refine z06q ?_ _ | refine z07q ?_ | refine z05q ?_ _)); exact BK326.out) hb); have n1_ := Aside0.mk (z11q (by repeat (first | (with_reducible first | exact HB.out | apply z02q | apply z00q | apply z01q | refine z03q ?_ GE326.out) | exact HB.out)) hb); have n2_ := Aside0.mk (hbox); have n3_ := Aside0.mk ((by rw [hg]; exact (z10q (by repeat (first | (with_reducible first | exact HB.out | apply z02q | apply z00q | apply z01q | refine z03q ?_ GE326.out) | exact HB.out))) : w.heap.size ≤ gb329)); have n4_ := Aside0.mk ((by rw [hg]; exact (z10q (by repeat (first | (with_reducible first | exact HB.out | apply z02q | apply z00q | apply z01q | refine z03q ?_ GE326.out) | exact HB.out))) : w.heap.size ≤ gb329)); have n5_ := Aside0.mk ((by rw [hg]; exact Nat.ne_of_lt (blk_lt (g := gb326) (o := .cells #[.int .i64 a0_0, .slice (some ad328) l0_1.length c0_1] 24 (0, 0)) (by (with_reducible repeat (first | refine z06q ?_ _ | refine z07q ?_ | refine z05q ?_ _)); exact BK326.out)) : gb326 ≠ gb329)); have n6_ := Aside0.mk ((by rw [hg]; exact Nat.ne_of_gt (blk_lt (g := gb326) (o := .cells #[.int .i64 a0_0, .slice (some ad328) l0_1.length c0_1] 24 (0, 0)) (by (with_reducible repeat (first | refine z06q ?_ _ | refine z07q ?_ | refine z05q ?_ _)); exact BK326.out)) : gb329 ≠ gb326)); clear BK326; clear HB; have BK326 := n0_; have HB := n1_; have BK329 := n2_; have GW329 := n3_; have GE329 := n4_; have NB326_329 := n5_; have NB329_326 := n6_; clear n0_ n1_ n2_ n3_ n4_ n5_ n6_; clear hb hbox hg; have hnb27 := NB329_326.out; have hnc27 := NB326_329.out; have hcz28_0 : w26.cell? ⟨gb329, 0, none⟩ = some (.int .i64 0) := (z04q BK329.out 0).trans rfl; have hcz28_1 : w26.cell? ⟨gb329, 1, none⟩ = some (.int .i64 0) := (z04q BK329.out 1).trans rfl; have hfz28_0 := z08q BK329.out 0; have hfz28_1 := z08q BK329.out 1; have p330 : 0 ≤ (x23_2 : Int) := of_decide_eq_true (by first | (with_reducible assumption) | assumption); have q330 : x23_2 < (l1.length : Int) := of_decide_eq_true (by first | (with_reducible assumption) | assumption); obtain ⟨ad330, e330, hx330_0⟩ := Kd.at_int HR1.out x23_2 p330 q330; cases e330; have hn330_0 : ad330.block ≠ gb329 := Nat.ne_of_lt (Nat.lt_of_lt_of_le (by have := World.block_lt_of_cell? _ _ hx330_0; first | rwa [add_block] at this | exact this) GW329.out); have hn330_1 : ad330.block ≠ gb329 := Nat.ne_of_lt (Nat.lt_of_lt_of_le (by have := World.block_lt_of_cell? _ _ hx330_0; first | rwa [add_block] at this | exact this) GW329.out); replace hx330_0 := (HB.out.cell (World.block_lt_of_cell? w _ hx330_0)).trans hx330_0; replace hx330_0 := (cell_far (p := ⟨gb329, 0, none⟩) (by first | (rw [add_block]; exact hn330_0) | (show (Addr.add _ _).block ≠ _; rw [add_block]; exact hn330_0) | exact hn330_0) (.int .i64 ((rd_T46 l0_1 x23_2).f0))).trans hx330_0; replace hx330_0 := (cell_far (p := ⟨gb329, 1, none⟩) (by first | (rw [add_block]; exact hn330_1) | (show (Addr.add _ _).block ≠ _; rw [add_block]; exact hn330_1) | exact hn330_1) (.int .i64 ((rd_T46 l0_1 x23_2).f1))).trans hx330_0; (try have hy330_0 := fun (n_ : Nat) => (show ((((w26.drewN n_).setCell ⟨gb329, 0, none⟩ (.int .i64 ((rd_T46 l0_1 x23_2).f0))).setCell ⟨gb329, 1, none⟩ (.int .i64 ((rd_T46 l0_1 x23_2).f1)))).cell? _ = some _ from hx330_0)); clear hn330_0; clear hn330_1; replace p330 := eq_true p330; replace q330 := eq_true q330; have p331 : 0 ≤ (x23_2 : Int) := of_decide_eq_true (by first | (with_reducible assumption) | assumption); have q331 : x23_2 < (l1.length : Int) := of_decide_eq_true (by first | (with_reducible assumption) | assumption); obtain ⟨ad331, e331, hx331_0⟩ := Kd.at_int HR1.out x23_2 p331 q331; obtain rfl : ad330 = ad331 := (by injection e331); have hn331_0 : ad330.block ≠ gb329 := Nat.ne_of_lt (Nat.lt_of_lt_of_le (by have := World.block_lt_of_cell? _ _ hx331_0; first | rwa [add_block] at this | exact this) GW329.out); have hn331_1 : ad330.block ≠ gb329 := Nat.ne_of_lt (Nat.lt_of_lt_of_le (by have := World.block_lt_of_cell? _ _ hx331_0; first | rwa [add_block] at this | exact this) GW329.out); replace hx331_0 := (HB.out.cell (World.block_lt_of_cell? w _ hx331_0)).trans hx331_0; replace hx331_0 := (cell_far (p := ⟨gb329, 0, none⟩) (by first | (rw [add_block]; exact hn331_0) | (show (Addr.add _ _).block ≠ _; rw [add_block]; exact hn331_0) | exact hn331_0) (.int .i64 ((rd_T46 l0_1 x23_2).f0))).trans hx331_0; replace hx331_0 := (cell_far (p := ⟨gb329, 1, none⟩) (by first | (rw [add_block]; exact hn331_1) | (show (Addr.add _ _).block ≠ _; rw [add_block]; exact hn331_1) | exact hn331_1) (.int .i64 ((rd_T46 l0_1 x23_2).f1))).trans hx331_0; (try have hy331_0 := fun (n_ : Nat) => (show ((((w26.drewN n_).setCell ⟨gb329, 0, none⟩ (.int .i64 ((rd_T46 l0_1 x23_2).f0))).setCell ⟨gb329, 1, none⟩ (.int .i64 ((rd_T46 l0_1 x23_2).f1)))).cell? _ = some _ from hx331_0)); clear hn331_0; clear hn331_1; replace p331 := eq_true p331; replace q331 := eq_true q331; have p332 : 0 ≤ (x23_2 : Int) := of_decide_eq_true (by first | (with_reducible assumption) | assumption); have q332 : x23_2 < (l1.length : Int) := of_decide_eq_true (by first | (with_reducible assumption) | assumption); obtain ⟨ad332, e332, hx332_0⟩ := Kd.at_int HR1.out x23_2 p332 q332; obtain rfl : ad330 = ad332 := (by injection e332); have hn332_0 : ad330.block ≠ gb329 := Nat.ne_of_lt (Nat.lt_of_lt_of_le (by have := World.block_lt_of_cell? _ _ hx332_0; first | rwa [add_block] at this | exact this) GW329.out); have hn332_1 : ad330.block ≠ gb329 := Nat.ne_of_lt (Nat.lt_of_lt_of_le (by have := World.block_lt_of_cell? _ _ hx332_0; first | rwa [add_block] at this | exact this) GW329.out); replace hx332_0 := (HB.out.cell (World.block_lt_of_cell? w _ hx332_0)).trans hx332_0; replace hx332_0 := (cell_far (p := ⟨gb329, 0, none⟩) (by first | (rw [add_block]; exact hn332_0) | (show (Addr.add _ _).block ≠ _; rw [add_block]; exact hn332_0) | exact hn332_0) (.int .i64 ((rd_T46 l0_1 x23_2).f0))).trans hx332_0; replace hx332_0 := (cell_far (p := ⟨gb329, 1, none⟩) (by first | (rw [add_block]; exact hn332_1) | (show (Addr.add _ _).block ≠ _; rw [add_block]; exact hn332_1) | exact hn332_1) (.int .i64 ((rd_T46 l0_1 x23_2).f1))).trans hx332_0; (try have hy332_0 := fun (n_ : Nat) => (show ((((w26.drewN n_).setCell ⟨gb329, 0, none⟩ (.int .i64 ((rd_T46 l0_1 x23_2).f0))).setCell ⟨gb329, 1, none⟩ (.int .i64 ((rd_T46 l0_1 x23_2).f1)))).cell? _ = some _ from hx332_0)); clear hn332_0; clear hn332_1; replace p332 := eq_true p332; replace q332 := eq_true q332)); try go_wp2_with (first | ((with_reducible refine z18q (N := 8) rfl ?_); (try (refine z25q (by rfl) ?_; dsimp only)); refine z17q ?hg (N := 8) ?hd (cs := #[.int .i64 0, .int .i64 0]) (t := 46) ?hr ?_; (case hd => rfl); (case hg => rfl); (case hr => first | (go_simp; done) | (go_simp; rfl)); intro gb329 hg w26 hbox hb; have n0_ := Aside0.mk (z09q (g := gb326) (o := .cells #[.int .i64 a0_0, .slice (some ad328) l0_1.length c0_1] 24 (0, 0)) (by (with_reducible repeat (first | refine z06q ?_ _ | refine z07q ?_ | refine z05q ?_ _)); exact BK326.out) hb); have n1_ := Aside0.mk (z11q (by repeat (first | (with_reducible first | exact HB.out | apply z02q | apply z00q | apply z01q | refine z03q ?_ GE326.out) | exact HB.out)) hb); have n2_ := Aside0.mk (hbox); have n3_ := Aside0.mk ((by rw [hg]; exact (z10q (by repeat (first | (with_reducible first | exact HB.out | apply z02q | apply z00q | apply z01q | refine z03q ?_ GE326.out) | exact HB.out))) : w.heap.size ≤ gb329)); have n4_ := Aside0.mk ((by rw [hg]; exact (z10q (by repeat (first | (with_reducible first | exact HB.out | apply z02q | apply z00q | apply z01q | refine z03q ?_ GE326.out) | exact HB.out))) : w.heap.size ≤ gb329)); have n5_ := Aside0.mk ((by rw [hg]; exact Nat.ne_of_lt (blk_lt (g := gb326) (o := .cells #[.int .i64 a0_0, .slice (some ad328) l0_1.length c0_1] 24 (0, 0)) (by (with_reducible repeat (first | refine z06q ?_ _ | refine z07q ?_ | refine z05q ?_ _)); exact BK326.out)) : gb326 ≠ gb329)); have n6_ := Aside0.mk ((by rw [hg]; exact Nat.ne_of_gt (blk_lt (g := gb326) (o := .cells #[.int .i64 a0_0, .slice (some ad328) l0_1.length c0_1] 24 (0, 0)) (by (with_reducible repeat (first | refine z06q ?_ _ | refine z07q ?_ | refine z05q ?_ _)); exact BK326.out)) : gb329 ≠ gb326)); clear BK326; clear HB; have BK326 := n0_; have HB := n1_; have BK329 := n2_; have GW329 := n3_; have GE329 := n4_; have NB326_329 := n5_; have NB329_326 := n6_; clear n0_ n1_ n2_ n3_ n4_ n5_ n6_; clear hb hbox hg; have hnb27 := NB329_326.out; have hnc27 := NB326_329.out; have hcz28_0 : w26.cell? ⟨gb329, 0, none⟩ = some (.int .i64 0) := (z04q BK329.out 0).trans rfl; have hcz28_1 : w26.cell? ⟨gb329, 1, none⟩ = some (.int .i64 0) := (z04q BK329.out 1).trans rfl; have hfz28_0 := z08q BK329.out 0; have hfz28_1 := z08q BK329.out 1; have p330 : 0 ≤ (x23_2 : Int) := of_decide_eq_true (by first | (with_reducible assumption) | assumption); have q330 : x23_2 < (l1.length : Int) := of_decide_eq_true (by first | (with_reducible assumption) | assumption); obtain ⟨ad330, e330, hx330_0⟩ := Kd.at_int HR1.out x23_2 p330 q330; cases e330; have hn330_0 : ad330.block ≠ gb329 := Nat.ne_of_lt (Nat.lt_of_lt_of_le (by have := World.block_lt_of_cell? _ _ hx330_0; first | rwa [add_block] at this | exact this) GW329.out); have hn330_1 : ad330.block ≠ gb329 := Nat.ne_of_lt (Nat.lt_of_lt_of_le (by have := World.block_lt_of_cell? _ _ hx330_0; first | rwa [add_block] at this | exact this) GW329.out); replace hx330_0 := (HB.out.cell (World.block_lt_of_cell? w _ hx330_0)).trans hx330_0; replace hx330_0 := (cell_far (p := ⟨gb329, 0, none⟩) (by first | (rw [add_block]; exact hn330_0) | (show (Addr.add _ _).block ≠ _; rw [add_block]; exact hn330_0) | exact hn330_0) (.int .i64 ((rd_T46 l0_1 x23_2).f0))).trans hx330_0; replace hx330_0 := (cell_far (p := ⟨gb329, 1, none⟩) (by first | (rw [add_block]; exact hn330_1) | (show (Addr.add _ _).block ≠ _; rw [add_block]; exact hn330_1) | exact hn330_1) (.int .i64 ((rd_T46 l0_1 x23_2).f1))).trans hx330_0; (try have hy330_0 := fun (n_ : Nat) => (show ((((w26.drewN n_).setCell ⟨gb329, 0, none⟩ (.int .i64 ((rd_T46 l0_1 x23_2).f0))).setCell ⟨gb329, 1, none⟩ (.int .i64 ((rd_T46 l0_1 x23_2).f1)))).cell? _ = some _ from hx330_0)); clear hn330_0; clear hn330_1; replace p330 := eq_true p330; replace q330 := eq_true q330; have p331 : 0 ≤ (x23_2 : Int) := of_decide_eq_true (by first | (with_reducible assumption) | assumption); have q331 : x23_2 < (l1.length : Int) := of_decide_eq_true (by first | (with_reducible assumption) | assumption); obtain ⟨ad331, e331, hx331_0⟩ := Kd.at_int HR1.out x23_2 p331 q331; obtain rfl : ad330 = ad331 := (by injection e331); have hn331_0 : ad330.block ≠ gb329 := Nat.ne_of_lt (Nat.lt_of_lt_of_le (by have := World.block_lt_of_cell? _ _ hx331_0; first | rwa [add_block] at this | exact this) GW329.out); have hn331_1 : ad330.block ≠ gb329 := Nat.ne_of_lt (Nat.lt_of_lt_of_le (by have := World.block_lt_of_cell? _ _ hx331_0; first | rwa [add_block] at this | exact this) GW329.out); replace hx331_0 := (HB.out.cell (World.block_lt_of_cell? w _ hx331_0)).trans hx331_0; replace hx331_0 := (cell_far (p := ⟨gb329, 0, none⟩) (by first | (rw [add_block]; exact hn331_0) | (show (Addr.add _ _).block ≠ _; rw [add_block]; exact hn331_0) | exact hn331_0) (.int .i64 ((rd_T46 l0_1 x23_2).f0))).trans hx331_0; replace hx331_0 := (cell_far (p := ⟨gb329, 1, none⟩) (by first | (rw [add_block]; exact hn331_1) | (show (Addr.add _ _).block ≠ _; rw [add_block]; exact hn331_1) | exact hn331_1) (.int .i64 ((rd_T46 l0_1 x23_2).f1))).trans hx331_0; (try have hy331_0 := fun (n_ : Nat) => (show ((((w26.drewN n_).setCell ⟨gb329, 0, none⟩ (.int .i64 ((rd_T46 l0_1 x23_2).f0))).setCell ⟨gb329, 1, none⟩ (.int .i64 ((rd_T46 l0_1 x23_2).f1)))).cell? _ = some _ from hx331_0)); clear hn331_0; clear hn331_1; replace p331 := eq_true p331; replace q331 := eq_true q331; have p332 : 0 ≤ (x23_2 : Int) := of_decide_eq_true (by first | (with_reducible assumption) | assumption); have q332 : x23_2 < (l1.length : Int) := of_decide_eq_true (by first | (with_reducible assumption) | assumption); obtain ⟨ad332, e332, hx332_0⟩ := Kd.at_int HR1.out x23_2 p332 q332; obtain rfl : ad330 = ad332 := (by injection e332); have hn332_0 : ad330.block ≠ gb329 := Nat.ne_of_lt (Nat.lt_of_lt_of_le (by have := World.block_lt_of_cell? _ _ hx332_0; first | rwa [add_block] at this | exact this) GW329.out); have hn332_1 : ad330.block ≠ gb329 := Nat.ne_of_lt (Nat.lt_of_lt_of_le (by have := World.block_lt_of_cell? _ _ hx332_0; first | rwa [add_block] at this | exact this) GW329.out); replace hx332_0 := (HB.out.cell (World.block_lt_of_cell? w _ hx332_0)).trans hx332_0; replace hx332_0 := (cell_far (p := ⟨gb329, 0, none⟩) (by first | (rw [add_block]; exact hn332_0) | (show (Addr.add _ _).block ≠ _; rw [add_block]; exact hn332_0) | exact hn332_0) (.int .i64 ((rd_T46 l0_1 x23_2).f0))).trans hx332_0; replace hx332_0 := (cell_far (p := ⟨gb329, 1, none⟩) (by first | (rw [add_block]; exact hn332_1) | (show (Addr.add _ _).block ≠ _; rw [add_block]; exact hn332_1) | exact hn332_1) (.int .i64 ((rd_T46 l0_1 x23_2).f1))).trans hx332_0; (try have hy332_0 := fun (n_ : Nat) => (show ((((w26.drewN n_).setCell ⟨gb329, 0, none⟩ (.int .i64 ((rd_T46 l0_1 x23_2).f0))).setCell ⟨gb329, 1, none⟩ (.int .i64 ((rd_T46 l0_1 x23_2).f1)))).cell? _ = some _ from hx332_0)); clear hn332_0; clear hn332_1; replace p332 := eq_true p332; replace q332 := eq_true q332)))
                        go_roundg k2
                        case measure => have := HJ2.out; have := HK2.out; omega
                        case rel => exact ⟨(wrap64 (x6_2 + (wrap64 ((rd l1 x23_2) * ((rd_T46 l0_1 x23_2).f0))))), (wrap64 (x23_2 + 1)), (by first | rfl | (simp; done) | (simp [*]; done)), (by first | rfl | (simp; done) | (simp [*]; done)), H', ⟨by have := HJ2.out; have := HK2.out; omega⟩, ⟨by (with_reducible repeat (first | refine z06q ?_ _ | refine z07q ?_ | refine z05q ?_ _)); refine blk_far ?_ NB326_329.out _; (with_reducible repeat (first | refine z06q ?_ _ | refine z07q ?_ | refine z05q ?_ _)); refine blk_far ?_ NB326_329.out _; (with_reducible repeat (first | refine z06q ?_ _ | refine z07q ?_ | refine z05q ?_ _)); exact BK326.out⟩, ⟨by repeat (first | (with_reducible first | exact HB.out | apply z02q | apply z00q | apply z01q | refine z03q ?_ GE326.out | refine z03q ?_ GE329.out) | exact HB.out)⟩⟩
                  · rw [if_neg c17] at H
                    exact absurd H (by simp)
                · rw [if_neg c16] at H
                  exact absurd H (by simp)
              · rw [if_neg c15] at H
                exact absurd H (by simp)
            · rw [if_neg c14] at H
              have c14b0 : decide (x23_2 < (l0_1.length : Int)) = false := decide_eq_false c14
              clear c14
              simp only [Option.some.injEq, Prod.mk.injEq] at H
              obtain ⟨rfl, rfl⟩ := H
              have hcz29_0 : wr.cell? ⟨gb326, 0, none⟩ = some (.int .i64 a0_0) := (z04q BK326.out 0).trans rfl
              have hcz29_1 : wr.cell? ⟨gb326, 1, none⟩ = some (.slice A0_1 l0_1.length c0_1) := (z04q BK326.out 1).trans rfl
              have hfz29_0 := z08q BK326.out 0
              have hfz29_1 := z08q BK326.out 1
              go_wp2
              repeat (go_quiet (fail); try go_wp2)
              go_ret2
              exact ⟨by first | rfl | (simp [z14q, z13q] <;> rfl) | (simp [*, z14q, z13q] <;> rfl), by repeat (first | (with_reducible first | exact HB.out | apply z02q | apply z00q | apply z01q | refine z03q ?_ GE326.out) | exact HB.out)⟩
def knap_Fits.f (k : Nat) (a0_0 : Int) (l0_1 : List (S46)) (l1 : List Int) : Option (Bool) := (knap_wide.f k a0_0 l0_1 l1).bind fun bt334 => (some bt334.2)
theorem knap_Fits.mono : ∀ a0 a1 a2 k, LeO (knap_Fits.f k a0 a1 a2) (knap_Fits.f (k + 1) a0 a1 a2) := by
  intro a0 a1 a2 k
  unfold knap_Fits.f
  repeat' first
      | (with_reducible exact knap_wide.mono _ _ _ _)
      | (with_reducible exact LeO.refl _)
      | (with_reducible exact LeO.none _)
      | (with_reducible refine LeO.ite ?_ ?_)
      | (with_reducible refine LeO.bind ?_ (fun _ => ?_))
      | exact knap_wide.mono _ _ _ _
      | exact LeO.none _
      | refine LeO.ite ?_ ?_
      | refine LeO.bind ?_ (fun _ => ?_)
set_option maxHeartbeats 8000000 in
set_option maxRecDepth 100000 in
theorem knap_Fits.calls (k : Nat) (a0_0 : Int) (A0_1 : Option Addr) (c0_1 : Nat) (l0_1 : List (S46)) (A1 : Option Addr) (c1 : Nat) (l1 : List Int) (r : Bool) (w : World) (hr0_1 : Kd.C k46 w A0_1 l0_1.length l0_1) (hc0_1 : l0_1.length ≤ c0_1) (hr1 : Kd.C (Kd.int .i64) w A1 l1.length l1) (hc1 : l1.length ≤ c1) (h : knap_Fits.f k a0_0 l0_1 l1 = some r) :
    Calls Try.prog 14 #[.agg #[.int .i64 a0_0, .slice A0_1 l0_1.length c0_1], .slice A1 l1.length c1] w fun e w' => e = .returned (.bool r) ∧ Below w.heap.size w w' := by
  have hu24 := Try.underlying24
  have HR0_1 := Aside0.mk hr0_1
  have HC0_1 := Aside0.mk hc0_1
  clear hr0_1 hc0_1
  have HR1 := Aside0.mk hr1
  have HC1 := Aside0.mk hc1
  clear hr1 hc1
  have HB := Aside0.mk (Below.refl w.heap.size w)
  have H : ((knap_wide.f k a0_0 l0_1 l1).bind fun bt334 => (some bt334.2)) = some r := h
  clear h
  replace H := Option.bind_eq_some_iff.mp H
  obtain ⟨⟨t334, t335⟩, A30, H⟩ := H
  replace H : (some t335) = some r := H
  have A3 := Aside0.mk A30
  clear A30
  obtain rfl := Option.some.inj H
  go_enter Try.func14, Try.ntmps14
  go_wp2_with (first | ((with_reducible refine z18q (N := 2) rfl ?_); refine z17q ?hg (N := 2) ?hd (cs := #[.int .i64 a0_0, .slice A0_1 l0_1.length c0_1]) (t := 24) ?hr ?_; (case hd => rfl); (case hg => rfl); (case hr => first | (go_simp; done) | (go_simp; rfl)); intro gb333 hg w4 hbox hb; have n0_ := Aside0.mk (z11q (by repeat (first | (with_reducible first | exact HB.out | apply z02q | apply z00q | apply z01q) | exact HB.out)) hb); have n1_ := Aside0.mk (hbox); have n2_ := Aside0.mk ((by rw [hg]; exact (z10q (by repeat (first | (with_reducible first | exact HB.out | apply z02q | apply z00q | apply z01q) | exact HB.out))) : w.heap.size ≤ gb333)); have n3_ := Aside0.mk ((by rw [hg]; exact (z10q (by repeat (first | (with_reducible first | exact HB.out | apply z02q | apply z00q | apply z01q) | exact HB.out))) : w.heap.size ≤ gb333)); clear HB; have HB := n0_; have BK333 := n1_; have GW333 := n2_; have GE333 := n3_; clear n0_ n1_ n2_ n3_; clear hb hbox hg; have hcz5_0 : w4.cell? ⟨gb333, 0, none⟩ = some (.int .i64 a0_0) := (z04q BK333.out 0).trans rfl; have hcz5_1 : w4.cell? ⟨gb333, 1, none⟩ = some (.slice A0_1 l0_1.length c0_1) := (z04q BK333.out 1).trans rfl; have hfz5_0 := z08q BK333.out 0; have hfz5_1 := z08q BK333.out 1) | ((with_reducible refine z16q (f := 26) rfl ?_); refine goesL_ (some 10) rfl rfl Try.func26 (by kernel_rfl) rfl #[.agg #[.int .i64 a0_0, .slice A0_1 l0_1.length c0_1], .slice A1 l1.length c1] rfl (by (try simp only [List.map_toArray, List.map_cons, List.map_nil]); first | done | rfl | (simp only [List.length_drop, List.length_take]; rfl)) ?_; (with_reducible refine (knap_wide.calls k a0_0 _ _ l0_1 _ _ l1 t334 t335 _ ?side1 ?side2 ?side3 ?side4 A3.out).mono ?_); (case side1 => repeat (first | exact (Kd.C_below HR0_1.out HB.out) | (with_reducible refine Kd.C_alloc ?_ _) | (with_reducible refine Kd.C_drewN ?_ _) | (with_reducible refine Kd.C_drew ?_))); (case side2 => exact HC0_1.out); (case side3 => repeat (first | exact (Kd.C_below HR1.out HB.out) | (with_reducible refine Kd.C_alloc ?_ _) | (with_reducible refine Kd.C_drewN ?_ _) | (with_reducible refine Kd.C_drew ?_))); (case side4 => exact HC1.out); rintro e w6 ⟨rfl, hb⟩; refine ⟨_, rfl, ?_⟩; have n0_ := Aside0.mk (z09q (g := gb333) (o := .cells #[.int .i64 a0_0, .slice A0_1 l0_1.length c0_1] 24 (0, 0)) (by (with_reducible repeat (first | refine z06q ?_ _ | refine z07q ?_ | refine z05q ?_ _)); exact BK333.out) hb); have n1_ := Aside0.mk (z11q (by repeat (first | (with_reducible first | exact HB.out | apply z02q | apply z00q | apply z01q | refine z03q ?_ GE333.out) | exact HB.out)) hb); clear BK333; clear HB; have BK333 := n0_; have HB := n1_; clear n0_ n1_; (try clear hb); (try clear hb2); (try clear hk); (try clear hi)))
  go_ret
  exact ⟨by first | rfl | (simp [z14q, z13q] <;> rfl) | (simp [*, z14q, z13q] <;> rfl), by repeat (first | (with_reducible first | exact HB.out | apply z02q | apply z00q | apply z01q | refine z03q ?_ GE333.out) | exact HB.out)⟩
def knap_Use.f (k : Nat) (a0_0 : Int) (l0_1 : List (S46)) (l1 : List Int) : Option (Int) := (knap_wide.f k a0_0 l0_1 l1).bind fun bt337 => (if bt337.2 = true then (some bt337.1) else (some 0))
theorem knap_Use.mono : ∀ a0 a1 a2 k, LeO (knap_Use.f k a0 a1 a2) (knap_Use.f (k + 1) a0 a1 a2) := by
  intro a0 a1 a2 k
  unfold knap_Use.f
  repeat' first
      | (with_reducible exact knap_wide.mono _ _ _ _)
      | (with_reducible exact LeO.refl _)
      | (with_reducible exact LeO.none _)
      | (with_reducible refine LeO.ite ?_ ?_)
      | (with_reducible refine LeO.bind ?_ (fun _ => ?_))
      | exact knap_wide.mono _ _ _ _
      | exact LeO.none _
      | refine LeO.ite ?_ ?_
      | refine LeO.bind ?_ (fun _ => ?_)
set_option maxHeartbeats 8000000 in
set_option maxRecDepth 100000 in
theorem knap_Use.calls (k : Nat) (a0_0 : Int) (A0_1 : Option Addr) (c0_1 : Nat) (l0_1 : List (S46)) (A1 : Option Addr) (c1 : Nat) (l1 : List Int) (r : Int) (w : World) (hr0_1 : Kd.C k46 w A0_1 l0_1.length l0_1) (hc0_1 : l0_1.length ≤ c0_1) (hr1 : Kd.C (Kd.int .i64) w A1 l1.length l1) (hc1 : l1.length ≤ c1) (h : knap_Use.f k a0_0 l0_1 l1 = some r) :
    Calls Try.prog 17 #[.agg #[.int .i64 a0_0, .slice A0_1 l0_1.length c0_1], .slice A1 l1.length c1] w fun e w' => e = .returned (.int .i64 r) ∧ Below w.heap.size w w' := by
  have hu24 := Try.underlying24
  have HR0_1 := Aside0.mk hr0_1
  have HC0_1 := Aside0.mk hc0_1
  clear hr0_1 hc0_1
  have HR1 := Aside0.mk hr1
  have HC1 := Aside0.mk hc1
  clear hr1 hc1
  have HB := Aside0.mk (Below.refl w.heap.size w)
  have H : ((knap_wide.f k a0_0 l0_1 l1).bind fun bt337 => (if bt337.2 = true then (some bt337.1) else (some 0))) = some r := h
  clear h
  replace H := Option.bind_eq_some_iff.mp H
  obtain ⟨⟨t337, t338⟩, A30, H⟩ := H
  replace H : (if t338 = true then (some t337) else (some 0)) = some r := H
  have A3 := Aside0.mk A30
  clear A30
  by_cases c4 : t338 = true
  · subst c4
    have H1 : (some t337) = some r := by rw [if_pos rfl] at H; exact H
    clear H
    have H := H1
    clear H1
    obtain rfl := Option.some.inj H
    go_enter Try.func17, Try.ntmps17
    go_wp2_with (first | ((with_reducible refine z18q (N := 2) rfl ?_); refine z17q ?hg (N := 2) ?hd (cs := #[.int .i64 a0_0, .slice A0_1 l0_1.length c0_1]) (t := 24) ?hr ?_; (case hd => rfl); (case hg => rfl); (case hr => first | (go_simp; done) | (go_simp; rfl)); intro gb336 hg w5 hbox hb; have n0_ := Aside0.mk (z11q (by repeat (first | (with_reducible first | exact HB.out | apply z02q | apply z00q | apply z01q) | exact HB.out)) hb); have n1_ := Aside0.mk (hbox); have n2_ := Aside0.mk ((by rw [hg]; exact (z10q (by repeat (first | (with_reducible first | exact HB.out | apply z02q | apply z00q | apply z01q) | exact HB.out))) : w.heap.size ≤ gb336)); have n3_ := Aside0.mk ((by rw [hg]; exact (z10q (by repeat (first | (with_reducible first | exact HB.out | apply z02q | apply z00q | apply z01q) | exact HB.out))) : w.heap.size ≤ gb336)); clear HB; have HB := n0_; have BK336 := n1_; have GW336 := n2_; have GE336 := n3_; clear n0_ n1_ n2_ n3_; clear hb hbox hg; have hcz6_0 : w5.cell? ⟨gb336, 0, none⟩ = some (.int .i64 a0_0) := (z04q BK336.out 0).trans rfl; have hcz6_1 : w5.cell? ⟨gb336, 1, none⟩ = some (.slice A0_1 l0_1.length c0_1) := (z04q BK336.out 1).trans rfl; have hfz6_0 := z08q BK336.out 0; have hfz6_1 := z08q BK336.out 1) | ((with_reducible refine z16q (f := 26) rfl ?_); refine goesL_ (some 10) rfl rfl Try.func26 (by kernel_rfl) rfl #[.agg #[.int .i64 a0_0, .slice A0_1 l0_1.length c0_1], .slice A1 l1.length c1] rfl (by (try simp only [List.map_toArray, List.map_cons, List.map_nil]); first | done | rfl | (simp only [List.length_drop, List.length_take]; rfl)) ?_; (with_reducible refine (knap_wide.calls k a0_0 _ _ l0_1 _ _ l1 t337 true _ ?side1 ?side2 ?side3 ?side4 A3.out).mono ?_); (case side1 => repeat (first | exact (Kd.C_below HR0_1.out HB.out) | (with_reducible refine Kd.C_alloc ?_ _) | (with_reducible refine Kd.C_drewN ?_ _) | (with_reducible refine Kd.C_drew ?_))); (case side2 => exact HC0_1.out); (case side3 => repeat (first | exact (Kd.C_below HR1.out HB.out) | (with_reducible refine Kd.C_alloc ?_ _) | (with_reducible refine Kd.C_drewN ?_ _) | (with_reducible refine Kd.C_drew ?_))); (case side4 => exact HC1.out); rintro e w7 ⟨rfl, hb⟩; refine ⟨_, rfl, ?_⟩; have n0_ := Aside0.mk (z09q (g := gb336) (o := .cells #[.int .i64 a0_0, .slice A0_1 l0_1.length c0_1] 24 (0, 0)) (by (with_reducible repeat (first | refine z06q ?_ _ | refine z07q ?_ | refine z05q ?_ _)); exact BK336.out) hb); have n1_ := Aside0.mk (z11q (by repeat (first | (with_reducible first | exact HB.out | apply z02q | apply z00q | apply z01q | refine z03q ?_ GE336.out) | exact HB.out)) hb); clear BK336; clear HB; have BK336 := n0_; have HB := n1_; clear n0_ n1_; (try clear hb); (try clear hb2); (try clear hk); (try clear hi)))
    go_ret
    exact ⟨by first | rfl | (simp [z14q, z13q] <;> rfl) | (simp [*, z14q, z13q] <;> rfl), by repeat (first | (with_reducible first | exact HB.out | apply z02q | apply z00q | apply z01q | refine z03q ?_ GE336.out) | exact HB.out)⟩
  · replace c4 := Bool.eq_false_iff.mpr c4
    subst c4
    have H1 : (some 0) = some r := by rw [if_neg (show ¬ (false = true) by decide)] at H; exact H
    clear H
    have H := H1
    clear H1
    obtain rfl := Option.some.inj H
    go_enter Try.func17, Try.ntmps17
    go_wp2_with (first | ((with_reducible refine z18q (N := 2) rfl ?_); refine z17q ?hg (N := 2) ?hd (cs := #[.int .i64 a0_0, .slice A0_1 l0_1.length c0_1]) (t := 24) ?hr ?_; (case hd => rfl); (case hg => rfl); (case hr => first | (go_simp; done) | (go_simp; rfl)); intro gb336 hg w8 hbox hb; have n0_ := Aside0.mk (z11q (by repeat (first | (with_reducible first | exact HB.out | apply z02q | apply z00q | apply z01q) | exact HB.out)) hb); have n1_ := Aside0.mk (hbox); have n2_ := Aside0.mk ((by rw [hg]; exact (z10q (by repeat (first | (with_reducible first | exact HB.out | apply z02q | apply z00q | apply z01q) | exact HB.out))) : w.heap.size ≤ gb336)); have n3_ := Aside0.mk ((by rw [hg]; exact (z10q (by repeat (first | (with_reducible first | exact HB.out | apply z02q | apply z00q | apply z01q) | exact HB.out))) : w.heap.size ≤ gb336)); clear HB; have HB := n0_; have BK336 := n1_; have GW336 := n2_; have GE336 := n3_; clear n0_ n1_ n2_ n3_; clear hb hbox hg; have hcz9_0 : w8.cell? ⟨gb336, 0, none⟩ = some (.int .i64 a0_0) := (z04q BK336.out 0).trans rfl; have hcz9_1 : w8.cell? ⟨gb336, 1, none⟩ = some (.slice A0_1 l0_1.length c0_1) := (z04q BK336.out 1).trans rfl; have hfz9_0 := z08q BK336.out 0; have hfz9_1 := z08q BK336.out 1) | ((with_reducible refine z16q (f := 26) rfl ?_); refine goesL_ (some 10) rfl rfl Try.func26 (by kernel_rfl) rfl #[.agg #[.int .i64 a0_0, .slice A0_1 l0_1.length c0_1], .slice A1 l1.length c1] rfl (by (try simp only [List.map_toArray, List.map_cons, List.map_nil]); first | done | rfl | (simp only [List.length_drop, List.length_take]; rfl)) ?_; (with_reducible refine (knap_wide.calls k a0_0 _ _ l0_1 _ _ l1 t337 false _ ?side1 ?side2 ?side3 ?side4 A3.out).mono ?_); (case side1 => repeat (first | exact (Kd.C_below HR0_1.out HB.out) | (with_reducible refine Kd.C_alloc ?_ _) | (with_reducible refine Kd.C_drewN ?_ _) | (with_reducible refine Kd.C_drew ?_))); (case side2 => exact HC0_1.out); (case side3 => repeat (first | exact (Kd.C_below HR1.out HB.out) | (with_reducible refine Kd.C_alloc ?_ _) | (with_reducible refine Kd.C_drewN ?_ _) | (with_reducible refine Kd.C_drew ?_))); (case side4 => exact HC1.out); rintro e w10 ⟨rfl, hb⟩; refine ⟨_, rfl, ?_⟩; have n0_ := Aside0.mk (z09q (g := gb336) (o := .cells #[.int .i64 a0_0, .slice A0_1 l0_1.length c0_1] 24 (0, 0)) (by (with_reducible repeat (first | refine z06q ?_ _ | refine z07q ?_ | refine z05q ?_ _)); exact BK336.out) hb); have n1_ := Aside0.mk (z11q (by repeat (first | (with_reducible first | exact HB.out | apply z02q | apply z00q | apply z01q | refine z03q ?_ GE336.out) | exact HB.out)) hb); clear BK336; clear HB; have BK336 := n0_; have HB := n1_; clear n0_ n1_; (try clear hb); (try clear hb2); (try clear hk); (try clear hi)))
    go_ret
    exact ⟨by first | rfl | (simp [z14q, z13q] <;> rfl) | (simp [*, z14q, z13q] <;> rfl), by repeat (first | (with_reducible first | exact HB.out | apply z02q | apply z00q | apply z01q | refine z03q ?_ GE336.out) | exact HB.out)⟩
end Go.Proofs.Ytgnffmbaecabnaa.M
