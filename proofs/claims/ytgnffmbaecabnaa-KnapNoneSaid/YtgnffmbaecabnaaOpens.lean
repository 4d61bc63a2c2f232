/- One opener for every parameter: what a type's data read as, by the print's kinds. No condition. -/
import Derived.Test.YtgnffmbaecabnaaM0
import Derived.Deep.Slices
import Derived.ChangeSame
set_option maxRecDepth 100000
namespace Go.Proofs.Ytgnffmbaecabnaa.M
open Go.RowKit Go.Proofs.YtgnffmbaecabnaaW.PrintWords Go.ChangeShapes Go.WideShapes
section
variable {H : Type} (enc : TypeId × Value → H) (P : Program) (w : World) (spare : Nat → Bool) (held : Bool)
def Opens {α : Type} (t : TypeId) (d : Kd α) (Q : α → Prop) : Prop :=
  P.cellsOf t = d.sz ∧ ∀ (fuel : Nat) (cs : List Value) (x : DataW H × List MemPlace), DataW.trod enc P w 0 spare held fuel t cs = some x → ∃ a, d.K w a cs ∧ Q a
variable {enc P w spare held}
theorem Opens.int {t : TypeId} {k : IntKind} (ht : P.underlying t = some (.int k)) (hc : P.cellsOf t = 1) : Opens enc P w spare held t (Kd.int k) (fun n => (Lit.int k n).wf = true) := by
  refine ⟨hc, fun fuel cs x h => ?_⟩
  obtain ⟨n, rfl, rfl, hn⟩ := DataW.trod_int ht h
  exact ⟨n, rfl, hn⟩
theorem Opens.bool {t : TypeId} (ht : P.underlying t = some .bool) (hc : P.cellsOf t = 1) : Opens enc P w spare held t Kd.bool (fun _ => True) := by
  refine ⟨hc, fun fuel cs x h => ?_⟩
  obtain ⟨b, rfl, rfl⟩ := DataW.trod_bool ht h
  exact ⟨b, rfl, trivial⟩
theorem Opens.slice {α : Type} {t e : TypeId} {d : Kd α} {Q : α → Prop} (z : α) (ht : P.underlying t = some (.slice e)) (hc : P.cellsOf t = 1) (he : Opens enc P w spare held e d Q) : Opens enc P w spare held t (Kd.slice e d) (fun l => ∀ a ∈ l, Q a) := by
  refine ⟨hc, fun fuel cs x h => ?_⟩
  rcases Go.Deep.open_slice ht h with ⟨rfl, -⟩ | ⟨a, len, cap, m, n, D, Pl, rfl, -, hl, hm, hmm, -, hx⟩
  · exact ⟨[], ⟨none, 0, rfl, Nat.le_refl _, rfl, by simp, fun h => absurd h (by simp)⟩, fun a ha => absurd ha (List.not_mem_nil)⟩
  · haveI : Inhabited α := ⟨z⟩
    have hlm : len ≤ m := by rw [hmm]; split <;> omega
    obtain ⟨f, hf⟩ := Go.Deep.choose_lt (α := α) (n := len) (p := fun i b => ∃ cs', w.cells? 0 (a.add (i * P.cellsOf e)) (P.cellsOf e) = some cs' ∧ d.K w b cs' ∧ Q b) (fun i hi => by
      obtain ⟨cs', h1, h2⟩ := hx i (by omega)
      obtain ⟨b, hb, hq⟩ := he.2 _ _ _ h2
      exact ⟨b, cs', h1, hb, hq⟩)
    have hlen : ((List.range len).map f).length = len := by simp
    refine ⟨(List.range len).map f, ⟨some a, cap, by rw [hlen], by rw [hlen]; exact hl, ?_⟩, ?_⟩
    · rw [hlen]
      refine ⟨hlen, by unfold maxLen at hm; omega, fun _ => ⟨a, rfl, fun j p hp => ?_⟩⟩
      have hj : j < len := by
        have := (List.getElem?_eq_some_iff.1 hp).1
        rwa [hlen] at this
      obtain rfl : f j = p := by
        rw [List.getElem?_map, List.getElem?_range hj] at hp
        exact Option.some.inj hp
      obtain ⟨cs', h1, h2, -⟩ := hf j hj
      refine ⟨cs', d.K_len h2, h2, fun i u hu => ?_⟩
      obtain ⟨_, h3, h4⟩ := World.cells?_some h1
      have hi : i < P.cellsOf e := by rw [← h3]; exact (List.getElem?_eq_some_iff.1 hu).1
      have h5 := h4 i hi
      rw [Go.Deep.add_add, he.1] at h5
      exact h5.trans hu
    · intro b hb
      obtain ⟨i, hi, rfl⟩ := List.mem_map.1 hb
      obtain ⟨_, _, _, hq⟩ := hf i (List.mem_range.1 hi)
      exact hq
theorem Opens.pair {α β : Type} {t : TypeId} {f0 f1 : Field} {d : Kd α} {d' : Kd β} {Q : α → Prop} {Q' : β → Prop} (ht : P.underlying t = some (.struct #[f0, f1])) (hc : P.cellsOf t = d.sz + d'.sz) (o0 : f0.offset = 0) (o1 : f1.offset = d.sz)
    (h0 : Opens enc P w spare held f0.type d Q) (h1 : Opens enc P w spare held f1.type d' Q') : Opens enc P w spare held t (Kd.pair d d') (fun p => Q p.1 ∧ Q' p.2) := by
  refine ⟨hc, fun fuel cs x h => ?_⟩
  obtain ⟨y0, y1, n, rfl, hl, g0, g1⟩ := trod_struct2 ht h
  rw [o0, h0.1, List.drop_zero] at g0
  rw [o1, h1.1] at g1
  obtain ⟨a, ha, hq⟩ := h0.2 _ _ _ g0
  obtain ⟨b, hb, hq'⟩ := h1.2 _ _ _ g1
  refine ⟨(a, b), ⟨_, _, ?_, ha, hb⟩, hq, hq'⟩
  rw [List.take_of_length_le (l := cs.drop d.sz) (by rw [List.length_drop, hl, hc]; omega), List.take_append_drop]
theorem Opens.iso {α β : Type} {t : TypeId} {d : Kd α} {Q : α → Prop} {f : β → α} (g : α → β) (hg : ∀ a, f (g a) = a) (h : Opens enc P w spare held t d Q) : Opens enc P w spare held t (Kd.iso d f) (fun b => Q (f b)) := by
  refine ⟨h.1, fun fuel cs x hx => ?_⟩
  obtain ⟨a, ha, hq⟩ := h.2 _ _ _ hx
  exact ⟨g a, show d.K w (f (g a)) cs by rw [hg]; exact ha, show Q (f (g a)) by rw [hg]; exact hq⟩
end
section
variable {H : Type} {enc : TypeId × Value → H} {w : World} {spare : Nat → Bool} {held : Bool}
theorem opens3 : Opens enc Try.prog w spare held 3 (Kd.int .i64) (fun n => (Lit.int .i64 n).wf = true) := Opens.int Try.underlying3 (by kernel_rfl)
theorem opens4 : Opens enc Try.prog w spare held 4 Kd.bool (fun _ => True) := Opens.bool Try.underlying4 (by kernel_rfl)
theorem opens96 : Opens enc Try.prog w spare held 96 (Kd.int .u32) (fun n => (Lit.int .u32 n).wf = true) := Opens.int Try.underlying96 (by kernel_rfl)
theorem opens35 : Opens enc Try.prog w spare held 35 (Kd.slice 96 (Kd.int .u32)) (fun l => ∀ a ∈ l, (Lit.int .u32 a).wf = true) := Opens.slice 0 Try.underlying35 (by kernel_rfl) opens96
theorem opens37 : Opens enc Try.prog w spare held 37 k37 (fun x => True ∧ ∀ a ∈ x.f1, (Lit.int .u32 a).wf = true) :=
  Opens.iso (fun p => ⟨p.1, p.2⟩) (fun _ => rfl) (Opens.pair Try.underlying37 (by kernel_rfl) rfl rfl opens4 opens35)
theorem opens39 : Opens enc Try.prog w spare held 39 k39 (fun x => (True ∧ ∀ a ∈ x.f0.f1, (Lit.int .u32 a).wf = true) ∧ ∀ a ∈ x.f1, (Lit.int .u32 a).wf = true) :=
  Opens.iso (fun p => ⟨p.1, p.2⟩) (fun _ => rfl) (Opens.pair Try.underlying39 (by kernel_rfl) rfl rfl opens37 opens35)
theorem opens25 : Opens enc Try.prog w spare held 25 (Kd.slice 39 k39) (fun l => ∀ x ∈ l, (True ∧ ∀ a ∈ x.f0.f1, (Lit.int .u32 a).wf = true) ∧ ∀ a ∈ x.f1, (Lit.int .u32 a).wf = true) := Opens.slice z39 Try.underlying25 (by kernel_rfl) opens39
theorem opens29 : Opens enc Try.prog w spare held 29 (Kd.slice 3 (Kd.int .i64)) (fun l => ∀ a ∈ l, (Lit.int .i64 a).wf = true) := Opens.slice 0 Try.underlying29 (by kernel_rfl) opens3
theorem opens46 : Opens enc Try.prog w spare held 46 k46 (fun x => (Lit.int .i64 x.f0).wf = true ∧ (Lit.int .i64 x.f1).wf = true) :=
  Opens.iso (fun p => ⟨p.1, p.2⟩) (fun _ => rfl) (Opens.pair Try.underlying46 (by kernel_rfl) rfl rfl opens3 opens3)
theorem opens22 : Opens enc Try.prog w spare held 22 (Kd.slice 46 k46) (fun l => ∀ x ∈ l, (Lit.int .i64 x.f0).wf = true ∧ (Lit.int .i64 x.f1).wf = true) := Opens.slice z46 Try.underlying22 (by kernel_rfl) opens46
theorem opens24 : Opens enc Try.prog w spare held 24 k24 (fun s => (Lit.int .i64 s.f0).wf = true ∧ ∀ x ∈ s.f1, (Lit.int .i64 x.f0).wf = true ∧ (Lit.int .i64 x.f1).wf = true) :=
  Opens.iso (fun p => ⟨p.1, p.2⟩) (fun _ => rfl) (Opens.pair Try.underlying24 (by kernel_rfl) rfl rfl opens3 opens22)
theorem stock_open {w : World} {x : S24} {cs : List Value} (h : k24.K w x cs) : ∃ A1 c1, cs = [.int .i64 x.f0, .slice A1 x.f1.length c1] ∧ x.f1.length ≤ c1 ∧ k46.C w A1 x.f1.length x.f1 := by
  obtain ⟨_, _, rfl, rfl, ⟨A1, c1, rfl, l1, g1⟩⟩ := h
  exact ⟨A1, c1, rfl, l1, g1⟩
theorem arg24 {v : Value} {r : Reach} {base : Nat} {y : DataW H} {ps : List MemPlace} (hv : Value.okWide Try.prog w r base 24 v) (h : DataW.Trod enc Try.prog w 0 spare held 24 v y ps) :
    ∃ (a : Int) (A : Option Addr) (c : Nat) (l : List S46), v = .agg #[.int .i64 a, .slice A l.length c] ∧ l.length ≤ c ∧ Kd.C k46 w A l.length l ∧ (Lit.int .i64 a).wf = true ∧ ∀ x ∈ l, (Lit.int .i64 x.f0).wf = true ∧ (Lit.int .i64 x.f1).wf = true := by
  obtain ⟨cs, rfl, -⟩ := okWide_struct Try.underlying24 hv
  obtain ⟨fuel, hf⟩ := h
  obtain ⟨s, hK, hq, hq'⟩ := opens24.2 _ _ _ hf
  obtain ⟨A, c, he, hl, hC⟩ := stock_open hK
  have hcs : cs = #[.int .i64 s.f0, .slice A s.f1.length c] := by
    cases cs
    simpa [Value.cells] using he
  exact ⟨s.f0, A, c, s.f1, by rw [hcs], hl, hC, hq, hq'⟩
theorem argRow {α : Type} {t e : TypeId} {d : Kd α} {Q : List α → Prop} {v : Value} {r : Reach} {base : Nat} {y : DataW H} {ps : List MemPlace} (ht : Try.prog.underlying t = some (.slice e)) (ho : Opens enc Try.prog w spare held t (Kd.slice e d) Q) (hv : Value.okWide Try.prog w r base t v) (h : DataW.Trod enc Try.prog w 0 spare held t v y ps) :
    ∃ (A : Option Addr) (c : Nat) (l : List α), v = .slice A l.length c ∧ l.length ≤ c ∧ Kd.C d w A l.length l ∧ Q l := by
  obtain ⟨a, len, cap, rfl⟩ := okWide_slice ht hv
  obtain ⟨fuel, hf⟩ := h
  obtain ⟨l, ⟨A, c, he, hl, hC⟩, hq⟩ := ho.2 _ _ _ hf
  have he' : [Value.slice a len cap] = [Value.slice A l.length c] := by simpa [Value.cells] using he
  injection he' with he' _
  exact ⟨A, c, l, he', hl, hC, hq⟩
end
end Go.Proofs.Ytgnffmbaecabnaa.M
