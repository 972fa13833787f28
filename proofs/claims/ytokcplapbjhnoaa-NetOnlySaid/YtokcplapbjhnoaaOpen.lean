/-
  What an argument reads as, told by its kind: from the row's reading of a value to the words of these proofs ('Kd.K', 'Kd.C'). No program in sight.
-/
import Derived.Test.YtokcplapbjhnoaaWMore
import Derived.Test.YtokcplapbjhnoaaWSized
import Derived.Deep.Slices
import Derived.ProofKit
import Derived.OpenShut
import Derived.ShutString
import Derived.ChangeOld
import Derived.SizedLaws
namespace Go.Proofs.Ytokcplapbjhnoaa
open Go.RowKit Go.ChangeShapes Go.WideShapes Go.Proofs.YtokcplapbjhnoaaW.PrintWords Go.Proofs.YtokcplapbjhnoaaW.PrintLast Go.Proofs.YtokcplapbjhnoaaW.PrintMore

section
variable {H : Type} (enc : TypeId × Value → H) (P : Program) (w : World) (base : Nat) (spare : Nat → Bool) (held : Bool)

def Opens (t : TypeId) {α : Type} (d : Kd α) (p : α → Prop) : Prop :=
  ∀ fuel cs x, DataW.trod enc P w base spare held fuel t cs = some x → ∃ a, d.K w a cs ∧ p a
def OpensF (fs : List Field) (o : Nat) {α : Type} (d : Kd α) (p : α → Prop) : Prop :=
  ∀ (fuel : Nat) (cs : List Value), (∀ f ∈ fs, ∃ x, DataW.trod enc P w base spare held fuel f.type ((cs.drop f.offset).take (P.cellsOf f.type)) = some x) → ∃ a, d.K w a ((cs.drop o).take d.sz) ∧ p a
end

section
variable {H : Type} {enc : TypeId × Value → H} {P : Program} {w : World} {base : Nat} {spare : Nat → Bool} {held : Bool} {α β : Type}

theorem opens_int {t : TypeId} {k : IntKind} (ht : P.underlying t = some (.int k)) : Opens enc P w base spare held t (Kd.int k) (fun n => (Lit.int k n).wf = true) := by
  intro fuel cs x h
  obtain ⟨n, rfl, _, hw⟩ := DataW.trod_int ht h
  exact ⟨n, rfl, hw⟩
theorem opens_bool {t : TypeId} (ht : P.underlying t = some .bool) : Opens enc P w base spare held t Kd.bool (fun _ => True) := by
  intro fuel cs x h
  obtain ⟨b, rfl, _⟩ := DataW.trod_bool ht h
  exact ⟨b, rfl, trivial⟩
theorem opens_string {t : TypeId} (ht : P.underlying t = some .string) : Opens enc P w base spare held t Kd.string (fun s => s.size ≤ maxLen) := by
  intro fuel cs x h
  obtain ⟨s, rfl, _, hs⟩ := DataW.trod_string ht h
  exact ⟨s, rfl, hs⟩
theorem Opens.mono {t : TypeId} {d : Kd α} {p q : α → Prop} (h : Opens enc P w base spare held t d p) (hpq : ∀ a, p a → q a) : Opens enc P w base spare held t d q := by
  intro fuel cs x hx
  obtain ⟨a, h1, h2⟩ := h fuel cs x hx
  exact ⟨a, h1, hpq a h2⟩
theorem opens_slice {t e : TypeId} {d : Kd α} {p : α → Prop} (ht : P.underlying t = some (.slice e)) (hc : P.cellsOf e = d.sz) (h : Opens enc P w base spare held e d p) :
    Opens enc P w base spare held t (Kd.slice e d) (fun xs => xs.length ≤ maxLen ∧ ∀ x ∈ xs, p x) := by
  intro fuel cs x hx
  rcases Go.Deep.open_slice ht hx with ⟨rfl, _⟩ | ⟨a, len, cap, m, n, D, Pl, rfl, hb, hl, hm, hmm, rfl, hi⟩
  · exact ⟨[], ⟨none, 0, rfl, Nat.le_refl _, rfl, by simp, fun h => absurd h (by simp)⟩, by simp⟩
  · have hlm : len ≤ m := by rw [hmm]; split <;> omega
    have each : ∀ i, i < len → ∃ a', ∃ cs', w.cells? base (a.add (i * P.cellsOf e)) (P.cellsOf e) = some cs' ∧ d.K w a' cs' ∧ p a' := by
      intro i h1
      obtain ⟨cs', h2, h3⟩ := hi i (by omega)
      obtain ⟨a', h4, h5⟩ := h n cs' _ h3
      exact ⟨a', cs', h2, h4, h5⟩
    have hex : ∃ ys : List α, ys.length = len ∧ ∀ i y, ys[i]? = some y → ∃ cs', w.cells? base (a.add (i * P.cellsOf e)) (P.cellsOf e) = some cs' ∧ d.K w y cs' ∧ p y := by
      refine ⟨(List.range len).attach.map fun i => Classical.choose (each i.1 (List.mem_range.1 i.2)), by simp, ?_⟩
      intro i y hy
      have hlt : i < len := by
        have := (List.getElem?_eq_some_iff.1 hy).1
        simpa using this
      rw [List.getElem?_map, List.getElem?_attach] at hy
      simp [hlt] at hy
      subst hy
      exact Classical.choose_spec (each i hlt)
    obtain ⟨ys, hlen, hys⟩ := hex
    subst hlen
    have hmax : ys.length ≤ 9223372036854775807 := by unfold maxLen at hm; omega
    refine ⟨ys, ⟨some a, cap, rfl, hl, rfl, hmax, fun _ => ⟨a, rfl, fun j y hj => ?_⟩⟩, by unfold maxLen; exact hmax, ?_⟩
    · obtain ⟨cs', h1, h2, _⟩ := hys j y hj
      obtain ⟨_, h4, h5⟩ := World.cells?_some h1
      refine ⟨cs', d.K_len h2, h2, fun i u hu => ?_⟩
      have hlt : i < P.cellsOf e := by rw [hc, ← d.K_len h2]; exact (List.getElem?_eq_some_iff.1 hu).1
      have := h5 i hlt
      rw [Go.Deep.add_add] at this
      rw [← hc, this, hu]
    · intro y hy
      obtain ⟨i, hi1, rfl⟩ := List.mem_iff_getElem.1 hy
      obtain ⟨_, _, _, h3⟩ := hys i ys[i] (List.getElem?_eq_getElem hi1)
      exact h3
theorem opensF_one {f : Field} {o : Nat} {d : Kd α} {p : α → Prop} (ho : f.offset = o) (hc : P.cellsOf f.type = d.sz) (h : Opens enc P w base spare held f.type d p) : OpensF enc P w base spare held [f] o d p := by
  intro fuel cs hx
  obtain ⟨x, hx⟩ := hx f (by simp)
  obtain ⟨a, h1, h2⟩ := h _ _ _ hx
  rw [ho, hc] at h1
  exact ⟨a, h1, h2⟩
theorem opensF_cons {f : Field} {fs : List Field} {o o' : Nat} {d : Kd α} {d' : Kd β} {p : α → Prop} {p' : β → Prop} (ho : f.offset = o) (hc : P.cellsOf f.type = d.sz) (ho' : o' = o + d.sz) (h : Opens enc P w base spare held f.type d p) (h' : OpensF enc P w base spare held fs o' d' p') :
    OpensF enc P w base spare held (f :: fs) o (Kd.pair d d') (fun x => p x.1 ∧ p' x.2) := by
  intro fuel cs hx
  obtain ⟨x, hx0⟩ := hx f (by simp)
  obtain ⟨a, h1, h2⟩ := h _ _ _ hx0
  rw [ho, hc] at h1
  obtain ⟨b, h3, h4⟩ := h' fuel cs (fun g hg => hx g (by simp [hg]))
  refine ⟨(a, b), ⟨_, _, ?_, h1, h3⟩, h2, h4⟩
  show (cs.drop o).take (d.sz + d'.sz) = _
  rw [List.take_add, List.drop_drop, ho']
theorem opens_struct {t : TypeId} {fs : Array Field} {d : Kd α} {p : α → Prop} (ht : P.underlying t = some (.struct fs)) (hc : P.cellsOf t = d.sz) (h : OpensF enc P w base spare held fs.toList 0 d p) : Opens enc P w base spare held t d p := by
  intro fuel cs x hx
  obtain ⟨xs, n, rfl, _, hl, hxs, hf⟩ := DataW.trod_struct ht hx
  obtain ⟨a, h1, h2⟩ := h n cs (fun f hm => by
    obtain ⟨i, hi, rfl⟩ := List.mem_iff_getElem.1 hm
    have hi' : i < fs.size := by simpa using hi
    have := hf i fs[i] (by rw [Array.getElem?_eq_getElem hi'])
    rw [Array.getElem_toList, this]
    exact ⟨xs[i]'(by omega), List.getElem?_eq_getElem _⟩)
  rw [List.drop_zero, List.take_of_length_le (by omega)] at h1
  exact ⟨a, h1, h2⟩
theorem opens_iso {t : TypeId} {d : Kd α} {p : α → Prop} {f : β → α} (g : α → β) (hg : ∀ a, f (g a) = a) (h : Opens enc P w base spare held t d p) : Opens enc P w base spare held t (Kd.iso d f) (fun b => p (f b)) := by
  intro fuel cs x hx
  obtain ⟨a, h1, h2⟩ := h _ _ _ hx
  refine ⟨g a, ?_, by show p (f (g a)); rw [hg]; exact h2⟩
  show d.K w (f (g a)) cs
  rw [hg]; exact h1

/-- An argument that is a slice. -/
theorem open_top {t e : TypeId} {r : Reach} {b0 : Nat} {v : Value} {dd : DataW H} {ps : List MemPlace} {d : Kd α} {p : α → Prop} (ht : P.underlying t = some (.slice e)) (hc : P.cellsOf e = d.sz) (h : Opens enc P w base spare held e d p) (hval : Value.okWide P w r b0 t v)
    (hd : DataW.Trod enc P w base spare held t v dd ps) : ∃ A c xs, v = .slice A xs.length c ∧ xs.length ≤ c ∧ d.C w A xs.length xs ∧ xs.length ≤ maxLen ∧ ∀ x ∈ xs, p x := by
  obtain ⟨a, len, cap, rfl⟩ := okWide_slice ht hval
  obtain ⟨fuel, hf⟩ := hd
  obtain ⟨xs, ⟨A, c, he, hl, hr⟩, hm, hp⟩ := opens_slice ht hc h _ _ _ hf
  simp [Value.cells] at he
  obtain ⟨rfl, rfl, rfl⟩ := he
  exact ⟨_, _, xs, rfl, hl, hr, hm, hp⟩
/-- An argument that is a struct. -/
theorem open_agg {t : TypeId} {fs : Array Field} {r : Reach} {b0 : Nat} {v : Value} {dd : DataW H} {ps : List MemPlace} {d : Kd α} {p : α → Prop} (ht : P.underlying t = some (.struct fs)) (h : Opens enc P w base spare held t d p) (hval : Value.okWide P w r b0 t v)
    (hd : DataW.Trod enc P w base spare held t v dd ps) : ∃ (z : α) (cs : Array Value), v = .agg cs ∧ d.K w z cs.toList ∧ p z := by
  obtain ⟨cs, rfl, _⟩ := okWide_struct ht hval
  obtain ⟨fuel, hf⟩ := hd
  obtain ⟨z, h1, h2⟩ := h _ _ _ hf
  exact ⟨z, cs, rfl, by simpa [Value.cells] using h1, h2⟩
/-- An argument that is an array of two, of three whole numbers. -/
theorem open_arr2 {t e : TypeId} {k : IntKind} {r : Reach} {b0 : Nat} {v : Value} {dd : DataW H} {ps : List MemPlace} (ht : P.underlying t = some (.array 2 e)) (hct : P.cellsOf t = 2) (hce : P.cellsOf e = 1) (he : P.underlying e = some (.int k)) (hval : Value.okWide P w r b0 t v)
    (hd : DataW.Trod enc P w base spare held t v dd ps) : ∃ a b : Int, v = .agg #[.int k a, .int k b] ∧ (Lit.int k a).wf = true ∧ (Lit.int k b).wf = true := by
  simp only [Value.okWide, ht] at hval
  obtain ⟨cs, rfl, hsz, _⟩ := hval
  obtain ⟨fuel, hf⟩ := hd
  obtain ⟨xs, m, rfl, _, hl, hxs, hi⟩ := DataW.trod_array ht hf
  rw [hct] at hsz
  obtain ⟨l⟩ := cs
  match l, hsz with
  | [c0, c1], _ =>
    have h0 := hi 0 (by omega)
    have h1 := hi 1 (by omega)
    rw [hce, List.getElem?_eq_getElem (by omega)] at h0 h1
    obtain ⟨a, e0, _, w0⟩ := DataW.trod_int he h0
    obtain ⟨b, e1, _, w1⟩ := DataW.trod_int he h1
    simp [Value.cells] at e0 e1
    exact ⟨a, b, by rw [e0, e1], w0, w1⟩
theorem open_arr3 {t e : TypeId} {k : IntKind} {r : Reach} {b0 : Nat} {v : Value} {dd : DataW H} {ps : List MemPlace} (ht : P.underlying t = some (.array 3 e)) (hct : P.cellsOf t = 3) (hce : P.cellsOf e = 1) (he : P.underlying e = some (.int k)) (hval : Value.okWide P w r b0 t v)
    (hd : DataW.Trod enc P w base spare held t v dd ps) : ∃ a b c : Int, v = .agg #[.int k a, .int k b, .int k c] ∧ (Lit.int k a).wf = true ∧ (Lit.int k b).wf = true ∧ (Lit.int k c).wf = true := by
  simp only [Value.okWide, ht] at hval
  obtain ⟨cs, rfl, hsz, _⟩ := hval
  obtain ⟨fuel, hf⟩ := hd
  obtain ⟨xs, m, rfl, _, hl, hxs, hi⟩ := DataW.trod_array ht hf
  rw [hct] at hsz
  obtain ⟨l⟩ := cs
  match l, hsz with
  | [c0, c1, c2], _ =>
    have h0 := hi 0 (by omega)
    have h1 := hi 1 (by omega)
    have h2 := hi 2 (by omega)
    rw [hce, List.getElem?_eq_getElem (by omega)] at h0 h1 h2
    obtain ⟨a, e0, _, w0⟩ := DataW.trod_int he h0
    obtain ⟨b, e1, _, w1⟩ := DataW.trod_int he h1
    obtain ⟨c, e2, _, w2⟩ := DataW.trod_int he h2
    simp [Value.cells] at e0 e1 e2
    exact ⟨a, b, c, by rw [e0, e1, e2], w0, w1, w2⟩
end

end Go.Proofs.Ytokcplapbjhnoaa
