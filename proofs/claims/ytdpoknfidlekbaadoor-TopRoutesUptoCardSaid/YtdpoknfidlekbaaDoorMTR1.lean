/-
  What an argument reads as, told by its kind: from the row's reading of a value to the words of these proofs ('Kd.K', 'Kd.C'). No program in sight.
  What an argument reads as where what it reads is of bulk at most 1048576: as the text Open says, and each slice in it has at most 1048576 elements. No program in sight.
  Printed: Pr0.
  Printed: PrF27.
  Printed: PrF12.
  Routes over numbers: what route.Right, In, Best and the reference's Right compute. (TAG Pn)
  route.bytes: the four bytes of an address.
  Printed: PrF14.
  route.Encode: the data of routes.
  Printed: PrE1.
  Printed: PrF11.
  Routes: the right ones, and the same of equals. No condition.
  A range over a function, at the wide fence, in the form that these proofs use: the loop's record is named, the iterator is one plain call whose world is told at its end; a round is one call of yield. No program in sight.
  What a range over a function turns in its own record leaves rows, boxes and what was there before as they were. No program in sight.
  route.of: the address of four bytes. Condition: bytes.
-/
import Derived.Test.YtdpoknfidlekbaaDoorWMore
import Derived.Test.YtdpoknfidlekbaaDoorWSized
import Derived.Deep.Slices
import Derived.ProofKit
import Derived.OpenShut
import Derived.ShutString
import Derived.ChangeOld
import Derived.SizedLaws
import Derived.Test.YtdpoknfidlekbaaDoorRows
import Derived.Test.YtdpoknfidlekbaaDoorProg
import Derived.Below
import Derived.Deep.Draws
import Derived.Deep.AppendLies
import Derived.Maps.AppendAt
import Derived.OwnWalk
import Derived.Laws.BytesArg
import Derived.Laws.MakeOwn
import Derived.Laws.OwnMore
import Derived.Deep.OwnRows
import Derived.Tactics
import Derived.Lib.ConvBytes
import Derived.Laws.Slices
import Derived.WalkKit
import Derived.KernelRfl
import Derived.RowKit3
import Derived.Deep.LoopGhost
import Derived.Deep.QuietTactic
import Derived.BigQuiet
import Derived.WideLaws
import Derived.Deep.DeepCutAuto
import Derived.Deep.CutBlock
import Derived.Deep.RegionHeld3
import Derived.Laws.Rows
import Derived.Lib.AppendStr
import Derived.ArgAppend
import Derived.Laws.IdiomCopy
import Derived.OrdersHeld
import Derived.Laws.BitsLemmas
import Derived.RowKit
import Derived.Test.YtdpoknfidlekbaaDoorWWords
import Derived.Test.YtdpoknfidlekbaaDoorWLast
import Derived.Test.YtdpoknfidlekbaaDoorWTab
import Derived.Test.YtdpoknfidlekbaaDoorWFour
import Derived.Test.YtdpoknfidlekbaaDoorWQPut
import Derived.Test.YtdpoknfidlekbaaDoorWApart
import Derived.Test.YtdpoknfidlekbaaDoorWArr
import Derived.Test.YtdpoknfidlekbaaDoorWZeros
import Derived.Test.YtdpoknfidlekbaaDoorWFoot
import Derived.Test.YtdpoknfidlekbaaDoorWKept
import Derived.Test.YtdpoknfidlekbaaDoorWShare
import Derived.Test.YtdpoknfidlekbaaDoorWN
import Derived.Test.YtdpoknfidlekbaaDoorWFootNe
import Derived.Test.YtdpoknfidlekbaaDoorWAt
import Derived.Test.YtdpoknfidlekbaaDoorWEqStruct
import Derived.Test.YtdpoknfidlekbaaDoorWRepsOne
import Derived.Test.YtdpoknfidlekbaaDoorWInv
import Derived.Test.YtdpoknfidlekbaaDoorWInvWords
import Derived.Test.YtdpoknfidlekbaaDoorWGuard
import Derived.Test.YtdpoknfidlekbaaDoorWNEv
import Derived.Lib.Hide
import Derived.RangeFuncNested
import Derived.RangeFuncBox
import Derived.OwnWalkIn
import Derived.TacticsInMore
import Derived.LoopNIn
import Derived.LoopIn

section
namespace Go.Proofs.YtdpoknfidlekbaaDoor
open Go.RowKit Go.ChangeShapes Go.WideShapes Go.Proofs.YtdpoknfidlekbaaDoorW.PrintWords Go.Proofs.YtdpoknfidlekbaaDoorW.PrintLast Go.Proofs.YtdpoknfidlekbaaDoorW.PrintMore

section
variable {H : Type} (enc : TypeId × Value → H) (P : Program) (w : World) (base : Nat) (spare : Nat → Bool) (held : Bool)

def Opens (t : TypeId) {α : Type} (d : Kd α) (p : α → Prop) : Prop :=
  ∀ fuel cs x, DataW.trod enc P w base spare held fuel t cs = some x → ∃ a, d.K w a cs ∧ p a
def OpensF (fs : List Field) (o : Nat) {α : Type} (d : Kd α) (p : α → Prop) : Prop :=
  ∀ (fuel : Nat) (cs : List Value), (∀ f ∈ fs, ∃ x, DataW.trod enc P w base spare held fuel f.type ((cs.drop f.offset).take (P.cellsOf f.type)) = some x) → ∃ a, d.K w a ((cs.drop o).take d.sz) ∧ p a
end

section
variable {H : Type} {enc : TypeId × Value → H} {P : Program} {w : World} {base : Nat} {spare : Nat → Bool} {held : Bool} {α β : Type}

theorem opens_int {t : TypeId} {k : IntKind} (ht : P.underlying t = some (.int k)) : Opens enc P w base spare held t (Kd.int k) (fun n => (Lit.int k n).wf = true) := by
  intro fuel cs x h
  obtain ⟨n, rfl, _, hw⟩ := DataW.trod_int ht h
  exact ⟨n, rfl, hw⟩
theorem opens_bool {t : TypeId} (ht : P.underlying t = some .bool) : Opens enc P w base spare held t Kd.bool (fun _ => True) := by
  intro fuel cs x h
  obtain ⟨b, rfl, _⟩ := DataW.trod_bool ht h
  exact ⟨b, rfl, trivial⟩
theorem opens_string {t : TypeId} (ht : P.underlying t = some .string) : Opens enc P w base spare held t Kd.string (fun s => s.size ≤ maxLen) := by
  intro fuel cs x h
  obtain ⟨s, rfl, _, hs⟩ := DataW.trod_string ht h
  exact ⟨s, rfl, hs⟩
theorem Opens.mono {t : TypeId} {d : Kd α} {p q : α → Prop} (h : Opens enc P w base spare held t d p) (hpq : ∀ a, p a → q a) : Opens enc P w base spare held t d q := by
  intro fuel cs x hx
  obtain ⟨a, h1, h2⟩ := h fuel cs x hx
  exact ⟨a, h1, hpq a h2⟩
theorem opens_slice {t e : TypeId} {d : Kd α} {p : α → Prop} (ht : P.underlying t = some (.slice e)) (hc : P.cellsOf e = d.sz) (h : Opens enc P w base spare held e d p) :
    Opens enc P w base spare held t (Kd.slice e d) (fun xs => xs.length ≤ maxLen ∧ ∀ x ∈ xs, p x) := by
  intro fuel cs x hx
  rcases Go.Deep.open_slice ht hx with ⟨rfl, _⟩ | ⟨a, len, cap, m, n, D, Pl, rfl, hb, hl, hm, hmm, rfl, hi⟩
  · exact ⟨[], ⟨none, 0, rfl, Nat.le_refl _, rfl, by simp, fun h => absurd h (by simp)⟩, by simp⟩
  · have hlm : len ≤ m := by rw [hmm]; split <;> omega
    have each : ∀ i, i < len → ∃ a', ∃ cs', w.cells? base (a.add (i * P.cellsOf e)) (P.cellsOf e) = some cs' ∧ d.K w a' cs' ∧ p a' := by
      intro i h1
      obtain ⟨cs', h2, h3⟩ := hi i (by omega)
      obtain ⟨a', h4, h5⟩ := h n cs' _ h3
      exact ⟨a', cs', h2, h4, h5⟩
    have hex : ∃ ys : List α, ys.length = len ∧ ∀ i y, ys[i]? = some y → ∃ cs', w.cells? base (a.add (i * P.cellsOf e)) (P.cellsOf e) = some cs' ∧ d.K w y cs' ∧ p y := by
      refine ⟨(List.range len).attach.map fun i => Classical.choose (each i.1 (List.mem_range.1 i.2)), by simp, ?_⟩
      intro i y hy
      have hlt : i < len := by
        have := (List.getElem?_eq_some_iff.1 hy).1
        simpa using this
      rw [List.getElem?_map, List.getElem?_attach] at hy
      simp [hlt] at hy
      subst hy
      exact Classical.choose_spec (each i hlt)
    obtain ⟨ys, hlen, hys⟩ := hex
    subst hlen
    have hmax : ys.length ≤ 9223372036854775807 := by unfold maxLen at hm; omega
    refine ⟨ys, ⟨some a, cap, rfl, hl, rfl, hmax, fun _ => ⟨a, rfl, fun j y hj => ?_⟩⟩, by unfold maxLen; exact hmax, ?_⟩
    · obtain ⟨cs', h1, h2, _⟩ := hys j y hj
      obtain ⟨_, h4, h5⟩ := World.cells?_some h1
      refine ⟨cs', d.K_len h2, h2, fun i u hu => ?_⟩
      have hlt : i < P.cellsOf e := by rw [hc, ← d.K_len h2]; exact (List.getElem?_eq_some_iff.1 hu).1
      have := h5 i hlt
      rw [Go.Deep.add_add] at this
      rw [← hc, this, hu]
    · intro y hy
      obtain ⟨i, hi1, rfl⟩ := List.mem_iff_getElem.1 hy
      obtain ⟨_, _, _, h3⟩ := hys i ys[i] (List.getElem?_eq_getElem hi1)
      exact h3
theorem opensF_one {f : Field} {o : Nat} {d : Kd α} {p : α → Prop} (ho : f.offset = o) (hc : P.cellsOf f.type = d.sz) (h : Opens enc P w base spare held f.type d p) : OpensF enc P w base spare held [f] o d p := by
  intro fuel cs hx
  obtain ⟨x, hx⟩ := hx f (by simp)
  obtain ⟨a, h1, h2⟩ := h _ _ _ hx
  rw [ho, hc] at h1
  exact ⟨a, h1, h2⟩
theorem opensF_cons {f : Field} {fs : List Field} {o o' : Nat} {d : Kd α} {d' : Kd β} {p : α → Prop} {p' : β → Prop} (ho : f.offset = o) (hc : P.cellsOf f.type = d.sz) (ho' : o' = o + d.sz) (h : Opens enc P w base spare held f.type d p) (h' : OpensF enc P w base spare held fs o' d' p') :
    OpensF enc P w base spare held (f :: fs) o (Kd.pair d d') (fun x => p x.1 ∧ p' x.2) := by
  intro fuel cs hx
  obtain ⟨x, hx0⟩ := hx f (by simp)
  obtain ⟨a, h1, h2⟩ := h _ _ _ hx0
  rw [ho, hc] at h1
  obtain ⟨b, h3, h4⟩ := h' fuel cs (fun g hg => hx g (by simp [hg]))
  refine ⟨(a, b), ⟨_, _, ?_, h1, h3⟩, h2, h4⟩
  show (cs.drop o).take (d.sz + d'.sz) = _
  rw [List.take_add, List.drop_drop, ho']
theorem opens_struct {t : TypeId} {fs : Array Field} {d : Kd α} {p : α → Prop} (ht : P.underlying t = some (.struct fs)) (hc : P.cellsOf t = d.sz) (h : OpensF enc P w base spare held fs.toList 0 d p) : Opens enc P w base spare held t d p := by
  intro fuel cs x hx
  obtain ⟨xs, n, rfl, _, hl, hxs, hf⟩ := DataW.trod_struct ht hx
  obtain ⟨a, h1, h2⟩ := h n cs (fun f hm => by
    obtain ⟨i, hi, rfl⟩ := List.mem_iff_getElem.1 hm
    have hi' : i < fs.size := by simpa using hi
    have := hf i fs[i] (by rw [Array.getElem?_eq_getElem hi'])
    rw [Array.getElem_toList, this]
    exact ⟨xs[i]'(by omega), List.getElem?_eq_getElem _⟩)
  rw [List.drop_zero, List.take_of_length_le (by omega)] at h1
  exact ⟨a, h1, h2⟩
theorem opens_iso {t : TypeId} {d : Kd α} {p : α → Prop} {f : β → α} (g : α → β) (hg : ∀ a, f (g a) = a) (h : Opens enc P w base spare held t d p) : Opens enc P w base spare held t (Kd.iso d f) (fun b => p (f b)) := by
  intro fuel cs x hx
  obtain ⟨a, h1, h2⟩ := h _ _ _ hx
  refine ⟨g a, ?_, by show p (f (g a)); rw [hg]; exact h2⟩
  show d.K w (f (g a)) cs
  rw [hg]; exact h1

/-- An argument that is a slice. -/
theorem open_top {t e : TypeId} {r : Reach} {b0 : Nat} {v : Value} {dd : DataW H} {ps : List MemPlace} {d : Kd α} {p : α → Prop} (ht : P.underlying t = some (.slice e)) (hc : P.cellsOf e = d.sz) (h : Opens enc P w base spare held e d p) (hval : Value.okWide P w r b0 t v)
    (hd : DataW.Trod enc P w base spare held t v dd ps) : ∃ A c xs, v = .slice A xs.length c ∧ xs.length ≤ c ∧ d.C w A xs.length xs ∧ xs.length ≤ maxLen ∧ ∀ x ∈ xs, p x := by
  obtain ⟨a, len, cap, rfl⟩ := okWide_slice ht hval
  obtain ⟨fuel, hf⟩ := hd
  obtain ⟨xs, ⟨A, c, he, hl, hr⟩, hm, hp⟩ := opens_slice ht hc h _ _ _ hf
  simp [Value.cells] at he
  obtain ⟨rfl, rfl, rfl⟩ := he
  exact ⟨_, _, xs, rfl, hl, hr, hm, hp⟩
/-- An argument that is a struct. -/
theorem open_agg {t : TypeId} {fs : Array Field} {r : Reach} {b0 : Nat} {v : Value} {dd : DataW H} {ps : List MemPlace} {d : Kd α} {p : α → Prop} (ht : P.underlying t = some (.struct fs)) (h : Opens enc P w base spare held t d p) (hval : Value.okWide P w r b0 t v)
    (hd : DataW.Trod enc P w base spare held t v dd ps) : ∃ (z : α) (cs : Array Value), v = .agg cs ∧ d.K w z cs.toList ∧ p z := by
  obtain ⟨cs, rfl, _⟩ := okWide_struct ht hval
  obtain ⟨fuel, hf⟩ := hd
  obtain ⟨z, h1, h2⟩ := h _ _ _ hf
  exact ⟨z, cs, rfl, by simpa [Value.cells] using h1, h2⟩
/-- An argument that is an array of two, of three whole numbers. -/
theorem open_arr2 {t e : TypeId} {k : IntKind} {r : Reach} {b0 : Nat} {v : Value} {dd : DataW H} {ps : List MemPlace} (ht : P.underlying t = some (.array 2 e)) (hct : P.cellsOf t = 2) (hce : P.cellsOf e = 1) (he : P.underlying e = some (.int k)) (hval : Value.okWide P w r b0 t v)
    (hd : DataW.Trod enc P w base spare held t v dd ps) : ∃ a b : Int, v = .agg #[.int k a, .int k b] ∧ (Lit.int k a).wf = true ∧ (Lit.int k b).wf = true := by
  simp only [Value.okWide, ht] at hval
  obtain ⟨cs, rfl, hsz, _⟩ := hval
  obtain ⟨fuel, hf⟩ := hd
  obtain ⟨xs, m, rfl, _, hl, hxs, hi⟩ := DataW.trod_array ht hf
  rw [hct] at hsz
  obtain ⟨l⟩ := cs
  match l, hsz with
  | [c0, c1], _ =>
    have h0 := hi 0 (by omega)
    have h1 := hi 1 (by omega)
    rw [hce, List.getElem?_eq_getElem (by omega)] at h0 h1
    obtain ⟨a, e0, _, w0⟩ := DataW.trod_int he h0
    obtain ⟨b, e1, _, w1⟩ := DataW.trod_int he h1
    simp [Value.cells] at e0 e1
    exact ⟨a, b, by rw [e0, e1], w0, w1⟩
theorem open_arr3 {t e : TypeId} {k : IntKind} {r : Reach} {b0 : Nat} {v : Value} {dd : DataW H} {ps : List MemPlace} (ht : P.underlying t = some (.array 3 e)) (hct : P.cellsOf t = 3) (hce : P.cellsOf e = 1) (he : P.underlying e = some (.int k)) (hval : Value.okWide P w r b0 t v)
    (hd : DataW.Trod enc P w base spare held t v dd ps) : ∃ a b c : Int, v = .agg #[.int k a, .int k b, .int k c] ∧ (Lit.int k a).wf = true ∧ (Lit.int k b).wf = true ∧ (Lit.int k c).wf = true := by
  simp only [Value.okWide, ht] at hval
  obtain ⟨cs, rfl, hsz, _⟩ := hval
  obtain ⟨fuel, hf⟩ := hd
  obtain ⟨xs, m, rfl, _, hl, hxs, hi⟩ := DataW.trod_array ht hf
  rw [hct] at hsz
  obtain ⟨l⟩ := cs
  match l, hsz with
  | [c0, c1, c2], _ =>
    have h0 := hi 0 (by omega)
    have h1 := hi 1 (by omega)
    have h2 := hi 2 (by omega)
    rw [hce, List.getElem?_eq_getElem (by omega)] at h0 h1 h2
    obtain ⟨a, e0, _, w0⟩ := DataW.trod_int he h0
    obtain ⟨b, e1, _, w1⟩ := DataW.trod_int he h1
    obtain ⟨c, e2, _, w2⟩ := DataW.trod_int he h2
    simp [Value.cells] at e0 e1 e2
    exact ⟨a, b, c, by rw [e0, e1, e2], w0, w1, w2⟩
end

end Go.Proofs.YtdpoknfidlekbaaDoor
end

section
namespace Go.Proofs.YtdpoknfidlekbaaDoor.UB
open Go.RowKit Go.ChangeShapes Go.WideShapes Go.Proofs.YtdpoknfidlekbaaDoorW.PrintWords Go.Proofs.YtdpoknfidlekbaaDoorW.PrintLast Go.Proofs.YtdpoknfidlekbaaDoorW.PrintMore

theorem bulk_one {H : Type} (d : DataW H) : 1 ≤ Rows.uptoBulk d := by
  cases d with
  | lit l => cases l <;> simp [Rows.uptoBulk]
  | nil => simp [Rows.uptoBulk]
  | ptr d => simp [Rows.uptoBulk]
  | slice elems spare => simp [Rows.uptoBulk]
  | agg parts => simp [Rows.uptoBulk]
  | iface t d => simp [Rows.uptoBulk]
  | map entries => simp [Rows.uptoBulk]
  | held h => simp [Rows.uptoBulk]
theorem bulk_part {H : Type} {d : DataW H} {l : List (DataW H)} (h : d ∈ l) : Rows.uptoBulk d ≤ Rows.uptoBulkAll l := by
  induction l with
  | nil => cases h
  | cons x r ih =>
    simp only [Rows.uptoBulkAll]
    cases List.mem_cons.1 h with
    | inl e => subst e; omega
    | inr e => have := ih e; omega
theorem bulk_len {H : Type} (l : List (DataW H)) : l.length ≤ Rows.uptoBulkAll l := by
  induction l with
  | nil => simp [Rows.uptoBulkAll]
  | cons x r ih => have := bulk_one x; simp only [Rows.uptoBulkAll, List.length_cons]; omega
theorem bulk_slice {H : Type} (elems spare : List (DataW H)) : Rows.uptoBulkAll elems + 1 ≤ Rows.uptoBulk (.slice elems spare) := by
  simp only [Rows.uptoBulk]
  omega
theorem bulk_agg {H : Type} (parts : List (DataW H)) : Rows.uptoBulkAll parts + 1 ≤ Rows.uptoBulk (.agg parts) := by
  simp only [Rows.uptoBulk]
  omega

section
variable {H : Type} (enc : TypeId × Value → H) (P : Program) (w : World) (base : Nat) (spare : Nat → Bool) (held : Bool) (N : Nat)
def Opens (t : TypeId) {α : Type} (d : Kd α) (p : α → Prop) : Prop :=
  ∀ fuel cs x, DataW.trod enc P w base spare held fuel t cs = some x → Rows.uptoBulk x.1 ≤ N → ∃ a, d.K w a cs ∧ p a
def OpensF (fs : List Field) (o : Nat) {α : Type} (d : Kd α) (p : α → Prop) : Prop :=
  ∀ (fuel : Nat) (cs : List Value), (∀ f ∈ fs, ∃ x, DataW.trod enc P w base spare held fuel f.type ((cs.drop f.offset).take (P.cellsOf f.type)) = some x ∧ Rows.uptoBulk x.1 ≤ N) → ∃ a, d.K w a ((cs.drop o).take d.sz) ∧ p a
end

section
variable {H : Type} {enc : TypeId × Value → H} {P : Program} {w : World} {base : Nat} {spare : Nat → Bool} {held : Bool} {N : Nat} {α β : Type}
theorem opens_int {t : TypeId} {k : IntKind} (ht : P.underlying t = some (.int k)) : Opens enc P w base spare held N t (Kd.int k) (fun n => (Lit.int k n).wf = true) := by
  intro fuel cs x h _
  obtain ⟨n, rfl, _, hw⟩ := DataW.trod_int ht h
  exact ⟨n, rfl, hw⟩
theorem opens_slice {t e : TypeId} {d : Kd α} {p : α → Prop} (ht : P.underlying t = some (.slice e)) (hc : P.cellsOf e = d.sz) (h : Opens enc P w base spare held N e d p) :
    Opens enc P w base spare held N t (Kd.slice e d) (fun xs => xs.length ≤ N ∧ ∀ x ∈ xs, p x) := by
  intro fuel cs x hx hN
  rcases Go.Deep.open_slice ht hx with ⟨rfl, _⟩ | ⟨a, len, cap, m, n, D, Pl, rfl, hb, hl, hm, hmm, rfl, hi⟩
  · exact ⟨[], ⟨none, 0, rfl, Nat.le_refl _, rfl, by simp, fun h => absurd h (by simp)⟩, by simp⟩
  · have hlm : len ≤ m := by rw [hmm]; split <;> omega
    have hN1 := bulk_slice ((List.range len).map D) ((List.range (m - len)).map fun j => D (len + j))
    have hN2 := bulk_len ((List.range len).map D)
    rw [List.length_map, List.length_range] at hN2
    have hN' : Rows.uptoBulk (.slice ((List.range len).map D) ((List.range (m - len)).map fun j => D (len + j))) ≤ N := hN
    have hlen : len ≤ N := by omega
    have hD : ∀ i, i < len → Rows.uptoBulk (D i) ≤ N := fun i hi => by
      have := bulk_part (d := D i) (l := (List.range len).map D) (List.mem_map.2 ⟨i, List.mem_range.2 hi, rfl⟩)
      omega
    have each : ∀ i, i < len → ∃ a', ∃ cs', w.cells? base (a.add (i * P.cellsOf e)) (P.cellsOf e) = some cs' ∧ d.K w a' cs' ∧ p a' := by
      intro i h1
      obtain ⟨cs', h2, h3⟩ := hi i (by omega)
      obtain ⟨a', h4, h5⟩ := h n cs' _ h3 (hD i h1)
      exact ⟨a', cs', h2, h4, h5⟩
    have hex : ∃ ys : List α, ys.length = len ∧ ∀ i y, ys[i]? = some y → ∃ cs', w.cells? base (a.add (i * P.cellsOf e)) (P.cellsOf e) = some cs' ∧ d.K w y cs' ∧ p y := by
      refine ⟨(List.range len).attach.map fun i => Classical.choose (each i.1 (List.mem_range.1 i.2)), by simp, ?_⟩
      intro i y hy
      have hlt : i < len := by
        have := (List.getElem?_eq_some_iff.1 hy).1
        simpa using this
      rw [List.getElem?_map, List.getElem?_attach] at hy
      simp [hlt] at hy
      subst hy
      exact Classical.choose_spec (each i hlt)
    obtain ⟨ys, hlen', hys⟩ := hex
    subst hlen'
    have hmax : ys.length ≤ 9223372036854775807 := by unfold maxLen at hm; omega
    refine ⟨ys, ⟨some a, cap, rfl, hl, rfl, hmax, fun _ => ⟨a, rfl, fun j y hj => ?_⟩⟩, hlen, ?_⟩
    · obtain ⟨cs', h1, h2, _⟩ := hys j y hj
      obtain ⟨_, h4, h5⟩ := World.cells?_some h1
      refine ⟨cs', d.K_len h2, h2, fun i u hu => ?_⟩
      have hlt : i < P.cellsOf e := by rw [hc, ← d.K_len h2]; exact (List.getElem?_eq_some_iff.1 hu).1
      have := h5 i hlt
      rw [Go.Deep.add_add] at this
      rw [← hc, this, hu]
    · intro y hy
      obtain ⟨i, hi1, rfl⟩ := List.mem_iff_getElem.1 hy
      obtain ⟨_, _, _, h3⟩ := hys i ys[i] (List.getElem?_eq_getElem hi1)
      exact h3
theorem opensF_one {f : Field} {o : Nat} {d : Kd α} {p : α → Prop} (ho : f.offset = o) (hc : P.cellsOf f.type = d.sz) (h : Opens enc P w base spare held N f.type d p) : OpensF enc P w base spare held N [f] o d p := by
  intro fuel cs hx
  obtain ⟨x, hx, hn⟩ := hx f (by simp)
  obtain ⟨a, h1, h2⟩ := h _ _ _ hx hn
  rw [ho, hc] at h1
  exact ⟨a, h1, h2⟩
theorem opensF_cons {f : Field} {fs : List Field} {o o' : Nat} {d : Kd α} {d' : Kd β} {p : α → Prop} {p' : β → Prop} (ho : f.offset = o) (hc : P.cellsOf f.type = d.sz) (ho' : o' = o + d.sz) (h : Opens enc P w base spare held N f.type d p) (h' : OpensF enc P w base spare held N fs o' d' p') :
    OpensF enc P w base spare held N (f :: fs) o (Kd.pair d d') (fun x => p x.1 ∧ p' x.2) := by
  intro fuel cs hx
  obtain ⟨x, hx0, hn⟩ := hx f (by simp)
  obtain ⟨a, h1, h2⟩ := h _ _ _ hx0 hn
  rw [ho, hc] at h1
  obtain ⟨b, h3, h4⟩ := h' fuel cs (fun g hg => hx g (by simp [hg]))
  refine ⟨(a, b), ⟨_, _, ?_, h1, h3⟩, h2, h4⟩
  show (cs.drop o).take (d.sz + d'.sz) = _
  rw [List.take_add, List.drop_drop, ho']
theorem opens_struct {t : TypeId} {fs : Array Field} {d : Kd α} {p : α → Prop} (ht : P.underlying t = some (.struct fs)) (hc : P.cellsOf t = d.sz) (h : OpensF enc P w base spare held N fs.toList 0 d p) : Opens enc P w base spare held N t d p := by
  intro fuel cs x hx hN
  obtain ⟨xs, n, rfl, rfl, hl, hxs, hf⟩ := DataW.trod_struct ht hx
  obtain ⟨a, h1, h2⟩ := h n cs (fun f hm => by
    obtain ⟨i, hi, rfl⟩ := List.mem_iff_getElem.1 hm
    have hi' : i < fs.size := by simpa using hi
    have := hf i fs[i] (by rw [Array.getElem?_eq_getElem hi'])
    rw [Array.getElem_toList, this]
    refine ⟨xs[i]'(by omega), List.getElem?_eq_getElem _, ?_⟩
    have h1 := bulk_part (d := (xs[i]'(by omega)).1) (l := xs.map (·.1)) (List.mem_map.2 ⟨_, List.getElem_mem _, rfl⟩)
    have h2 := bulk_agg (xs.map (·.1))
    have h3 : Rows.uptoBulk (.agg (xs.map (·.1))) ≤ N := by simpa using hN
    omega)
  rw [List.drop_zero, List.take_of_length_le (by omega)] at h1
  exact ⟨a, h1, h2⟩
theorem opens_iso {t : TypeId} {d : Kd α} {p : α → Prop} {f : β → α} (g : α → β) (hg : ∀ a, f (g a) = a) (h : Opens enc P w base spare held N t d p) : Opens enc P w base spare held N t (Kd.iso d f) (fun b => p (f b)) := by
  intro fuel cs x hx hN
  obtain ⟨a, h1, h2⟩ := h _ _ _ hx hN
  refine ⟨g a, ?_, by show p (f (g a)); rw [hg]; exact h2⟩
  show d.K w (f (g a)) cs
  rw [hg]; exact h1
/-- An argument that is a slice. -/
theorem open_top {t e : TypeId} {r : Reach} {b0 : Nat} {v : Value} {dd : DataW H} {ps : List MemPlace} {d : Kd α} {p : α → Prop} (ht : P.underlying t = some (.slice e)) (hc : P.cellsOf e = d.sz) (h : Opens enc P w base spare held N e d p) (hval : Value.okWide P w r b0 t v)
    (hd : DataW.Trod enc P w base spare held t v dd ps) (hN : Rows.uptoBulk dd ≤ N) : ∃ A c xs, v = .slice A xs.length c ∧ xs.length ≤ c ∧ d.C w A xs.length xs ∧ xs.length ≤ N ∧ ∀ x ∈ xs, p x := by
  obtain ⟨a, len, cap, rfl⟩ := okWide_slice ht hval
  obtain ⟨fuel, hf⟩ := hd
  obtain ⟨xs, ⟨A, c, he, hl, hr⟩, hm, hp⟩ := opens_slice ht hc h _ _ _ hf hN
  simp [Value.cells] at he
  obtain ⟨rfl, rfl, rfl⟩ := he
  exact ⟨_, _, xs, rfl, hl, hr, hm, hp⟩
/-- An argument that is a struct. -/
theorem open_agg {t : TypeId} {fs : Array Field} {r : Reach} {b0 : Nat} {v : Value} {dd : DataW H} {ps : List MemPlace} {d : Kd α} {p : α → Prop} (ht : P.underlying t = some (.struct fs)) (h : Opens enc P w base spare held N t d p) (hval : Value.okWide P w r b0 t v)
    (hd : DataW.Trod enc P w base spare held t v dd ps) (hN : Rows.uptoBulk dd ≤ N) : ∃ (z : α) (cs : Array Value), v = .agg cs ∧ d.K w z cs.toList ∧ p z := by
  obtain ⟨cs, rfl, _⟩ := okWide_struct ht hval
  obtain ⟨fuel, hf⟩ := hd
  obtain ⟨z, h1, h2⟩ := h _ _ _ hf hN
  exact ⟨z, cs, rfl, by simpa [Value.cells] using h1, h2⟩
end
end Go.Proofs.YtdpoknfidlekbaaDoor.UB
end

section
-- written by a program of this session (wip/tools/gen.py) over the kit's print
namespace Go.Proofs.YtdpoknfidlekbaaDoor.Pr
open Go.RowKit Go.Proofs.YtdpoknfidlekbaaDoorW.PrintWords Go.Proofs.YtdpoknfidlekbaaDoorW.PrintLast Go.Proofs.YtdpoknfidlekbaaDoorW.PrintMore
attribute [local go_sem] max2_int min2_int max_two min_two max_three min_three max_four min_four   -- for this text's walks alone
set_option linter.unusedVariables false
set_option linter.unusedSimpArgs false



def errW : Option Int → Value
  | none => .nilIface
  | some c => .iface 0 (.int .i64 c)
theorem errW_none : errW none = .nilIface := rfl
theorem errW_some (c : Int) : errW (some c) = .iface 0 (.int .i64 c) := rfl

theorem info5 : (Tryd.prog.info? 5).map (fun i => (i.zero, i.size, i.bytes)) = some (some (.int .u8 0), 1, 1) := by kernel_rfl
-- the values' own types
def rd_L3 (xs : List (List Int)) (i : Int) : (List Int) := xs.getD i.toNat ([] : List Int)
theorem at_L3 {w : World} {A : Option Addr} {n : Nat} {xs : List (List Int)} (h : Kd.C (Kd.slice 5 (Kd.int .u8)) w A n xs) (i : Int) (h0 : 0 ≤ i) (h1 : i < n) : ∃ ad A0 c0, A = some ad ∧ w.cell? (ad.add i.toNat) = some (.slice A0 (rd_L3 xs i).length c0) ∧ (rd_L3 xs i).length ≤ c0 ∧ (Kd.int .u8).C w A0 (rd_L3 xs i).length (rd_L3 xs i) := by
  obtain ⟨ad, c, e, _, hK, hc0⟩ := Kd.C_get h ([] : List Int) i h0 h1
  have hc : ∀ j u, c[j]? = some u → w.cell? (ad.add (i.toNat * 1 + j)) = some u := hc0
  obtain ⟨A0, c0, rfl, l0, g0⟩ := hK
  exact ⟨ad, A0, c0, e, by have hq := hc 0 _ rfl; rwa [Nat.mul_one, Nat.add_zero] at hq, l0, g0⟩

/-! #### struct type 53 -/
structure S53 where
  f0 : Int
  f1 : (List Int)
def z53 : S53 := ⟨(0 : Int), ([] : List Int)⟩
def k53 : Kd S53 := Kd.iso (Kd.pair (Kd.int .i64) (Kd.slice 5 (Kd.int .u8))) (fun x : S53 => (x.f0, x.f1))
theorem k53_open {w : World} {x : S53} {cs : List Value} (h : k53.K w x cs) : ∃ A1 c1, cs = [.int .i64 x.f0, .slice A1 x.f1.length c1] ∧ x.f1.length ≤ c1 ∧ (Kd.int .u8).C w A1 x.f1.length x.f1 := by
  obtain ⟨_, _, rfl, rfl, ⟨A1, c1, rfl, l1, g1⟩⟩ := h
  exact ⟨A1, c1, rfl, l1, g1⟩
theorem k53_openM {w : World} {base : Nat} {ok : Nat → Prop} {x : S53} {cs : List Value} (h : k53.M w base ok x cs) : ∃ v1, cs = [.int .i64 x.f0, v1] ∧ (Kd.int .u8).R 5 w base ok v1 x.f1 := by
  obtain ⟨_, _, rfl, rfl, ⟨v1, rfl, g1⟩⟩ := h
  exact ⟨v1, rfl, g1⟩
theorem k53_mk (w : World) (x : S53) {A1 : Option Addr} {c1 : Nat} (l1 : x.f1.length ≤ c1) (g1 : (Kd.int .u8).C w A1 x.f1.length x.f1) : k53.K w x [.int .i64 x.f0, .slice A1 x.f1.length c1] := ⟨[.int .i64 x.f0], [.slice A1 x.f1.length c1], rfl, rfl, ⟨A1, c1, rfl, l1, g1⟩⟩
theorem k53_mkM (w : World) (base : Nat) (ok : Nat → Prop) (x : S53) {v1 : Value} (g1 : (Kd.int .u8).R 5 w base ok v1 x.f1) : k53.M w base ok x [.int .i64 x.f0, v1] := ⟨[.int .i64 x.f0], [v1], rfl, rfl, ⟨v1, rfl, g1⟩⟩
def rd_T53 (xs : List S53) (i : Int) : S53 := xs.getD i.toNat z53
theorem at_T53 {w : World} {A : Option Addr} {n : Nat} {xs : List S53} (h : Kd.C k53 w A n xs) (i : Int) (h0 : 0 ≤ i) (h1 : i < n) : ∃ ad A1 c1, A = some ad ∧ w.cell? (ad.add (i.toNat * 2)) = some (.int .i64 (rd_T53 xs i).f0) ∧ w.cell? ⟨(ad.add (i.toNat * 2)).block, (ad.add (i.toNat * 2)).off + 1, none⟩ = some (.slice A1 (rd_T53 xs i).f1.length c1) ∧ (rd_T53 xs i).f1.length ≤ c1 ∧ (Kd.int .u8).C w A1 (rd_T53 xs i).f1.length (rd_T53 xs i).f1 := by
  obtain ⟨ad, c, e, _, hK, hc0⟩ := Kd.C_get h z53 i h0 h1
  have hc : ∀ j u, c[j]? = some u → w.cell? (ad.add (i.toNat * 2 + j)) = some u := hc0
  obtain ⟨A1, c1, rfl, l1, g1⟩ := k53_open hK
  exact ⟨ad, A1, c1, e, hc 0 _ rfl, by rw [← add_field _ _ 1 (by omega)]; exact hc 1 _ rfl, l1, g1⟩

def rd_L5 (xs : List (List S53)) (i : Int) : (List S53) := xs.getD i.toNat ([] : List S53)
theorem at_L5 {w : World} {A : Option Addr} {n : Nat} {xs : List (List S53)} (h : Kd.C (Kd.slice 53 k53) w A n xs) (i : Int) (h0 : 0 ≤ i) (h1 : i < n) : ∃ ad A0 c0, A = some ad ∧ w.cell? (ad.add i.toNat) = some (.slice A0 (rd_L5 xs i).length c0) ∧ (rd_L5 xs i).length ≤ c0 ∧ k53.C w A0 (rd_L5 xs i).length (rd_L5 xs i) := by
  obtain ⟨ad, c, e, _, hK, hc0⟩ := Kd.C_get h ([] : List S53) i h0 h1
  have hc : ∀ j u, c[j]? = some u → w.cell? (ad.add (i.toNat * 1 + j)) = some u := hc0
  obtain ⟨A0, c0, rfl, l0, g0⟩ := hK
  exact ⟨ad, A0, c0, e, by have hq := hc 0 _ rfl; rwa [Nat.mul_one, Nat.add_zero] at hq, l0, g0⟩

/-! #### struct type 27 -/
structure S27 where
  f0 : Int
  f1 : Int
  f2 : Int
  f3 : Int
  f4 : Int
  f5 : Int
  f6 : Int
  f7 : Int
  f8 : (List Int)
  f9 : (List S53)
def z27 : S27 := ⟨(0 : Int), (0 : Int), (0 : Int), (0 : Int), (0 : Int), (0 : Int), (0 : Int), (0 : Int), ([] : List Int), ([] : List S53)⟩
def k27 : Kd S27 := Kd.iso (Kd.pair (Kd.int .i64) (Kd.pair (Kd.int .u32) (Kd.pair (Kd.int .i64) (Kd.pair (Kd.int .i64) (Kd.pair (Kd.int .u32) (Kd.pair (Kd.int .u32) (Kd.pair (Kd.int .u32) (Kd.pair (Kd.int .u32) (Kd.pair (Kd.slice 5 (Kd.int .u8)) (Kd.slice 53 k53)))))))))) (fun x : S27 => (x.f0, x.f1, x.f2, x.f3, x.f4, x.f5, x.f6, x.f7, x.f8, x.f9))
theorem k27_open {w : World} {x : S27} {cs : List Value} (h : k27.K w x cs) : ∃ A8 c8 A9 c9, cs = [.int .i64 x.f0, .int .u32 x.f1, .int .i64 x.f2, .int .i64 x.f3, .int .u32 x.f4, .int .u32 x.f5, .int .u32 x.f6, .int .u32 x.f7, .slice A8 x.f8.length c8, .slice A9 x.f9.length c9] ∧ x.f8.length ≤ c8 ∧ (Kd.int .u8).C w A8 x.f8.length x.f8 ∧ x.f9.length ≤ c9 ∧ k53.C w A9 x.f9.length x.f9 := by
  obtain ⟨_, _, rfl, rfl, ⟨_, _, rfl, rfl, ⟨_, _, rfl, rfl, ⟨_, _, rfl, rfl, ⟨_, _, rfl, rfl, ⟨_, _, rfl, rfl, ⟨_, _, rfl, rfl, ⟨_, _, rfl, rfl, ⟨_, _, rfl, ⟨A8, c8, rfl, l8, g8⟩, ⟨A9, c9, rfl, l9, g9⟩⟩⟩⟩⟩⟩⟩⟩⟩⟩ := h
  exact ⟨A8, c8, A9, c9, rfl, l8, g8, l9, g9⟩
theorem k27_openM {w : World} {base : Nat} {ok : Nat → Prop} {x : S27} {cs : List Value} (h : k27.M w base ok x cs) : ∃ v8 v9, cs = [.int .i64 x.f0, .int .u32 x.f1, .int .i64 x.f2, .int .i64 x.f3, .int .u32 x.f4, .int .u32 x.f5, .int .u32 x.f6, .int .u32 x.f7, v8, v9] ∧ (Kd.int .u8).R 5 w base ok v8 x.f8 ∧ k53.R 53 w base ok v9 x.f9 := by
  obtain ⟨_, _, rfl, rfl, ⟨_, _, rfl, rfl, ⟨_, _, rfl, rfl, ⟨_, _, rfl, rfl, ⟨_, _, rfl, rfl, ⟨_, _, rfl, rfl, ⟨_, _, rfl, rfl, ⟨_, _, rfl, rfl, ⟨_, _, rfl, ⟨v8, rfl, g8⟩, ⟨v9, rfl, g9⟩⟩⟩⟩⟩⟩⟩⟩⟩⟩ := h
  exact ⟨v8, v9, rfl, g8, g9⟩
theorem k27_mk (w : World) (x : S27) {A8 : Option Addr} {c8 : Nat} (l8 : x.f8.length ≤ c8) (g8 : (Kd.int .u8).C w A8 x.f8.length x.f8) {A9 : Option Addr} {c9 : Nat} (l9 : x.f9.length ≤ c9) (g9 : k53.C w A9 x.f9.length x.f9) : k27.K w x [.int .i64 x.f0, .int .u32 x.f1, .int .i64 x.f2, .int .i64 x.f3, .int .u32 x.f4, .int .u32 x.f5, .int .u32 x.f6, .int .u32 x.f7, .slice A8 x.f8.length c8, .slice A9 x.f9.length c9] := ⟨[.int .i64 x.f0], [.int .u32 x.f1, .int .i64 x.f2, .int .i64 x.f3, .int .u32 x.f4, .int .u32 x.f5, .int .u32 x.f6, .int .u32 x.f7, .slice A8 x.f8.length c8, .slice A9 x.f9.length c9], rfl, rfl, ⟨[.int .u32 x.f1], [.int .i64 x.f2, .int .i64 x.f3, .int .u32 x.f4, .int .u32 x.f5, .int .u32 x.f6, .int .u32 x.f7, .slice A8 x.f8.length c8, .slice A9 x.f9.length c9], rfl, rfl, ⟨[.int .i64 x.f2], [.int .i64 x.f3, .int .u32 x.f4, .int .u32 x.f5, .int .u32 x.f6, .int .u32 x.f7, .slice A8 x.f8.length c8, .slice A9 x.f9.length c9], rfl, rfl, ⟨[.int .i64 x.f3], [.int .u32 x.f4, .int .u32 x.f5, .int .u32 x.f6, .int .u32 x.f7, .slice A8 x.f8.length c8, .slice A9 x.f9.length c9], rfl, rfl, ⟨[.int .u32 x.f4], [.int .u32 x.f5, .int .u32 x.f6, .int .u32 x.f7, .slice A8 x.f8.length c8, .slice A9 x.f9.length c9], rfl, rfl, ⟨[.int .u32 x.f5], [.int .u32 x.f6, .int .u32 x.f7, .slice A8 x.f8.length c8, .slice A9 x.f9.length c9], rfl, rfl, ⟨[.int .u32 x.f6], [.int .u32 x.f7, .slice A8 x.f8.length c8, .slice A9 x.f9.length c9], rfl, rfl, ⟨[.int .u32 x.f7], [.slice A8 x.f8.length c8, .slice A9 x.f9.length c9], rfl, rfl, ⟨[.slice A8 x.f8.length c8], [.slice A9 x.f9.length c9], rfl, ⟨A8, c8, rfl, l8, g8⟩, ⟨A9, c9, rfl, l9, g9⟩⟩⟩⟩⟩⟩⟩⟩⟩⟩
theorem k27_mkM (w : World) (base : Nat) (ok : Nat → Prop) (x : S27) {v8 : Value} (g8 : (Kd.int .u8).R 5 w base ok v8 x.f8) {v9 : Value} (g9 : k53.R 53 w base ok v9 x.f9) : k27.M w base ok x [.int .i64 x.f0, .int .u32 x.f1, .int .i64 x.f2, .int .i64 x.f3, .int .u32 x.f4, .int .u32 x.f5, .int .u32 x.f6, .int .u32 x.f7, v8, v9] := ⟨[.int .i64 x.f0], [.int .u32 x.f1, .int .i64 x.f2, .int .i64 x.f3, .int .u32 x.f4, .int .u32 x.f5, .int .u32 x.f6, .int .u32 x.f7, v8, v9], rfl, rfl, ⟨[.int .u32 x.f1], [.int .i64 x.f2, .int .i64 x.f3, .int .u32 x.f4, .int .u32 x.f5, .int .u32 x.f6, .int .u32 x.f7, v8, v9], rfl, rfl, ⟨[.int .i64 x.f2], [.int .i64 x.f3, .int .u32 x.f4, .int .u32 x.f5, .int .u32 x.f6, .int .u32 x.f7, v8, v9], rfl, rfl, ⟨[.int .i64 x.f3], [.int .u32 x.f4, .int .u32 x.f5, .int .u32 x.f6, .int .u32 x.f7, v8, v9], rfl, rfl, ⟨[.int .u32 x.f4], [.int .u32 x.f5, .int .u32 x.f6, .int .u32 x.f7, v8, v9], rfl, rfl, ⟨[.int .u32 x.f5], [.int .u32 x.f6, .int .u32 x.f7, v8, v9], rfl, rfl, ⟨[.int .u32 x.f6], [.int .u32 x.f7, v8, v9], rfl, rfl, ⟨[.int .u32 x.f7], [v8, v9], rfl, rfl, ⟨[v8], [v9], rfl, ⟨v8, rfl, g8⟩, ⟨v9, rfl, g9⟩⟩⟩⟩⟩⟩⟩⟩⟩⟩
def rd_T27 (xs : List S27) (i : Int) : S27 := xs.getD i.toNat z27
theorem at_T27 {w : World} {A : Option Addr} {n : Nat} {xs : List S27} (h : Kd.C k27 w A n xs) (i : Int) (h0 : 0 ≤ i) (h1 : i < n) : ∃ ad A8 c8 A9 c9, A = some ad ∧ w.cell? (ad.add (i.toNat * 10)) = some (.int .i64 (rd_T27 xs i).f0) ∧ w.cell? ⟨(ad.add (i.toNat * 10)).block, (ad.add (i.toNat * 10)).off + 1, none⟩ = some (.int .u32 (rd_T27 xs i).f1) ∧ w.cell? ⟨(ad.add (i.toNat * 10)).block, (ad.add (i.toNat * 10)).off + 2, none⟩ = some (.int .i64 (rd_T27 xs i).f2) ∧ w.cell? ⟨(ad.add (i.toNat * 10)).block, (ad.add (i.toNat * 10)).off + 3, none⟩ = some (.int .i64 (rd_T27 xs i).f3) ∧ w.cell? ⟨(ad.add (i.toNat * 10)).block, (ad.add (i.toNat * 10)).off + 4, none⟩ = some (.int .u32 (rd_T27 xs i).f4) ∧ w.cell? ⟨(ad.add (i.toNat * 10)).block, (ad.add (i.toNat * 10)).off + 5, none⟩ = some (.int .u32 (rd_T27 xs i).f5) ∧ w.cell? ⟨(ad.add (i.toNat * 10)).block, (ad.add (i.toNat * 10)).off + 6, none⟩ = some (.int .u32 (rd_T27 xs i).f6) ∧ w.cell? ⟨(ad.add (i.toNat * 10)).block, (ad.add (i.toNat * 10)).off + 7, none⟩ = some (.int .u32 (rd_T27 xs i).f7) ∧ w.cell? ⟨(ad.add (i.toNat * 10)).block, (ad.add (i.toNat * 10)).off + 8, none⟩ = some (.slice A8 (rd_T27 xs i).f8.length c8) ∧ w.cell? ⟨(ad.add (i.toNat * 10)).block, (ad.add (i.toNat * 10)).off + 9, none⟩ = some (.slice A9 (rd_T27 xs i).f9.length c9) ∧ (rd_T27 xs i).f8.length ≤ c8 ∧ (Kd.int .u8).C w A8 (rd_T27 xs i).f8.length (rd_T27 xs i).f8 ∧ (rd_T27 xs i).f9.length ≤ c9 ∧ k53.C w A9 (rd_T27 xs i).f9.length (rd_T27 xs i).f9 := by
  obtain ⟨ad, c, e, _, hK, hc0⟩ := Kd.C_get h z27 i h0 h1
  have hc : ∀ j u, c[j]? = some u → w.cell? (ad.add (i.toNat * 10 + j)) = some u := hc0
  obtain ⟨A8, c8, A9, c9, rfl, l8, g8, l9, g9⟩ := k27_open hK
  exact ⟨ad, A8, c8, A9, c9, e, hc 0 _ rfl, by rw [← add_field _ _ 1 (by omega)]; exact hc 1 _ rfl, by rw [← add_field _ _ 2 (by omega)]; exact hc 2 _ rfl, by rw [← add_field _ _ 3 (by omega)]; exact hc 3 _ rfl, by rw [← add_field _ _ 4 (by omega)]; exact hc 4 _ rfl, by rw [← add_field _ _ 5 (by omega)]; exact hc 5 _ rfl, by rw [← add_field _ _ 6 (by omega)]; exact hc 6 _ rfl, by rw [← add_field _ _ 7 (by omega)]; exact hc 7 _ rfl, by rw [← add_field _ _ 8 (by omega)]; exact hc 8 _ rfl, by rw [← add_field _ _ 9 (by omega)]; exact hc 9 _ rfl, l8, g8, l9, g9⟩

/-! #### struct type 44 -/
structure S44 where
  f0 : Int
  f1 : Int
  f2 : Int
def z44 : S44 := ⟨(0 : Int), (0 : Int), (0 : Int)⟩
def k44 : Kd S44 := Kd.iso (Kd.pair (Kd.int .u32) (Kd.pair (Kd.int .i64) (Kd.int .u32))) (fun x : S44 => (x.f0, x.f1, x.f2))
theorem k44_open {w : World} {x : S44} {cs : List Value} (h : k44.K w x cs) : cs = [.int .u32 x.f0, .int .i64 x.f1, .int .u32 x.f2] := by
  obtain ⟨_, _, rfl, rfl, ⟨_, _, rfl, rfl, rfl⟩⟩ := h
  exact rfl
theorem k44_openM {w : World} {base : Nat} {ok : Nat → Prop} {x : S44} {cs : List Value} (h : k44.M w base ok x cs) : cs = [.int .u32 x.f0, .int .i64 x.f1, .int .u32 x.f2] := by
  obtain ⟨_, _, rfl, rfl, ⟨_, _, rfl, rfl, rfl⟩⟩ := h
  exact rfl
theorem k44_mk (w : World) (x : S44)  : k44.K w x [.int .u32 x.f0, .int .i64 x.f1, .int .u32 x.f2] := ⟨[.int .u32 x.f0], [.int .i64 x.f1, .int .u32 x.f2], rfl, rfl, ⟨[.int .i64 x.f1], [.int .u32 x.f2], rfl, rfl, rfl⟩⟩
theorem k44_mkM (w : World) (base : Nat) (ok : Nat → Prop) (x : S44)  : k44.M w base ok x [.int .u32 x.f0, .int .i64 x.f1, .int .u32 x.f2] := ⟨[.int .u32 x.f0], [.int .i64 x.f1, .int .u32 x.f2], rfl, rfl, ⟨[.int .i64 x.f1], [.int .u32 x.f2], rfl, rfl, rfl⟩⟩
def rd_T44 (xs : List S44) (i : Int) : S44 := xs.getD i.toNat z44
theorem at_T44 {w : World} {A : Option Addr} {n : Nat} {xs : List S44} (h : Kd.C k44 w A n xs) (i : Int) (h0 : 0 ≤ i) (h1 : i < n) : ∃ ad , A = some ad ∧ w.cell? (ad.add (i.toNat * 3)) = some (.int .u32 (rd_T44 xs i).f0) ∧ w.cell? ⟨(ad.add (i.toNat * 3)).block, (ad.add (i.toNat * 3)).off + 1, none⟩ = some (.int .i64 (rd_T44 xs i).f1) ∧ w.cell? ⟨(ad.add (i.toNat * 3)).block, (ad.add (i.toNat * 3)).off + 2, none⟩ = some (.int .u32 (rd_T44 xs i).f2) := by
  obtain ⟨ad, c, e, _, hK, hc0⟩ := Kd.C_get h z44 i h0 h1
  have hc : ∀ j u, c[j]? = some u → w.cell? (ad.add (i.toNat * 3 + j)) = some u := hc0
  obtain rfl := k44_open hK
  exact ⟨ad, e, hc 0 _ rfl, by rw [← add_field _ _ 1 (by omega)]; exact hc 1 _ rfl, by rw [← add_field _ _ 2 (by omega)]; exact hc 2 _ rfl⟩

def rd_L8 (xs : List (List S44)) (i : Int) : (List S44) := xs.getD i.toNat ([] : List S44)
theorem at_L8 {w : World} {A : Option Addr} {n : Nat} {xs : List (List S44)} (h : Kd.C (Kd.slice 44 k44) w A n xs) (i : Int) (h0 : 0 ≤ i) (h1 : i < n) : ∃ ad A0 c0, A = some ad ∧ w.cell? (ad.add i.toNat) = some (.slice A0 (rd_L8 xs i).length c0) ∧ (rd_L8 xs i).length ≤ c0 ∧ k44.C w A0 (rd_L8 xs i).length (rd_L8 xs i) := by
  obtain ⟨ad, c, e, _, hK, hc0⟩ := Kd.C_get h ([] : List S44) i h0 h1
  have hc : ∀ j u, c[j]? = some u → w.cell? (ad.add (i.toNat * 1 + j)) = some u := hc0
  obtain ⟨A0, c0, rfl, l0, g0⟩ := hK
  exact ⟨ad, A0, c0, e, by have hq := hc 0 _ rfl; rwa [Nat.mul_one, Nat.add_zero] at hq, l0, g0⟩

/-- goes_ where the callee stands in a slot. -/
theorem goesv_ {P : Program} {ops : Array Oper} {Q : Exit → Act → World → Prop} {oi : Oper} {N : Option Tmp} {a : Act} {w : World} {K : Act → World → Prop} {f : FuncId} {fn : Func} {xs : Array Operand} {ts : Array TypeId} {c : Operand} (hf : P.funcs[f]? = some fn) (hname : (fn.name == "runtime.NumGoroutine") = false) (hb : fn.body.isSome = true) (args : Array Value)
    (hw : Region.wanted oi (yielded ops a.tmps) = true) (hN : oi.dst = N) (hop : oi.op = .call { callee := .value c, args := xs, argTypes := ts }) (hargs : xs.map a.eval = args)
    (h : Calls P f args w fun e w' => ∃ v, e = .returned v ∧ K (a.put N v) w') (hc : a.eval c = .func (.func f) #[] #[] := by first | rfl | (simp [Act.eval]; done)) : if Region.wanted oi (yielded ops a.tmps) = true then Oper.wp P oi a w K Q else K (a.put N undef) w := by
  refine call_ f args hw hN ?_ h
  have he := enters_ hf hname hb args w
  unfold execOp
  simp [hop, resolve, Deferred.ofValue, invoke, hc, hargs, he]

end Go.Proofs.YtdpoknfidlekbaaDoor.Pr
end

section
-- written by a program of this session (wip/tools/gen.py) over the kit's print
namespace Go.Proofs.YtdpoknfidlekbaaDoor.Pr
open Go.RowKit Go.Proofs.YtdpoknfidlekbaaDoorW.PrintWords Go.Proofs.YtdpoknfidlekbaaDoorW.PrintLast Go.Proofs.YtdpoknfidlekbaaDoorW.PrintMore
attribute [local go_sem] max2_int min2_int max_two min_two max_three min_three max_four min_four   -- for this text's walks alone
set_option linter.unusedVariables false
set_option linter.unusedSimpArgs false

/-! ### route_mask: function 27 -/
def route_mask.f (a0 : Int) : Option (Int) := if 0 ≤ (wrap64 (32 - a0)) then (some ((IntKind.u64.wrap (4294967296 - (shl .u64 1 (wrap64 (32 - a0))))) % 4294967296)) else (none)
set_option maxHeartbeats 8000000 in
set_option maxRecDepth 100000 in
theorem route_mask.calls (a0 : Int) (r : Int) (w : World) (h : route_mask.f a0 = some r) :
  Calls Tryd.prog 27 #[.int .i64 a0] w fun e w' => e = .returned (.int .u32 r) ∧ Drawn0 w w' := by
 have H : (if 0 ≤ (wrap64 (32 - a0)) then (some ((IntKind.u64.wrap (4294967296 - (shl .u64 1 (wrap64 (32 - a0))))) % 4294967296)) else (none)) = some r := h
 clear h
 obtain ⟨ji2, hji2⟩ : ∃ j_ : Int, (wrap64 (32 - a0)) = j_ := ⟨_, rfl⟩
 replace H : (if 0 ≤ (ji2) then (some ((IntKind.u64.wrap (4294967296 - (shl .u64 1 (ji2)))) % 4294967296)) else (none)) = some r := by first | (rw [hji2] at H; exact H) | (simp only [hji2] at H ⊢; exact H)
 have hji2w : (IntKind.i64.wrap (32 - a0)) = ji2 := (i64_w _).trans hji2
 by_cases c3 : 0 ≤ (ji2)
 ·rw [if_pos c3] at H
  have c3b0 := eq_true c3
  have c3b1 : decide (0 ≤ (ji2)) = true := decide_eq_true c3
  clear c3
  obtain ⟨ji4, hji4⟩ : ∃ j_ : Int, (shl .u64 1 (ji2)) = j_ := ⟨_, rfl⟩
  replace H : (some ((IntKind.u64.wrap (4294967296 - (ji4))) % 4294967296)) = some r := by first | (rw [hji4] at H; exact H) | (simp only [hji4] at H ⊢; exact H)
  have hji4_ : (IntKind.u64.wrap (1 * 2 ^ min (ji2).toNat 64)) = ji4 := hji4
  have hji4z : (ji2) ≤ 64 → (IntKind.u64.wrap (1 * 2 ^ (ji2).toNat)) = ji4 := shl_small hji4
  have hji4u : (IntKind.u64.wrap (2 ^ min (ji2).toNat 64)) = ji4 := by have h_ := hji4_; rw [Int.one_mul] at h_; exact h_
  have hji4v : (ji2) ≤ 64 → (IntKind.u64.wrap (2 ^ (ji2).toNat)) = ji4 := fun hle_ => by have h_ := hji4z hle_; rw [Int.one_mul] at h_; exact h_
  obtain rfl := Option.some.inj H
  go_enter Tryd.func27, Tryd.ntmps27
  go_wp2
  go_ret
  exact ⟨by first | rfl | (simp; done) | (simp only [← hji2, ← hji4] <;> (first | rfl | simp)) | (simp [*]; done), by repeat (first | exact Drawn0.refl _ | apply Drawn0.step)⟩
 ·rw [if_neg c3] at H
  exact absurd H (by simp)

end Go.Proofs.YtdpoknfidlekbaaDoor.Pr
end

section
-- written by a program of this session (wip/tools/gen.py) over the kit's print
namespace Go.Proofs.YtdpoknfidlekbaaDoor.Pr
open Go.RowKit Go.Proofs.YtdpoknfidlekbaaDoorW.PrintWords Go.Proofs.YtdpoknfidlekbaaDoorW.PrintLast Go.Proofs.YtdpoknfidlekbaaDoorW.PrintMore
attribute [local go_sem] max2_int min2_int max_two min_two max_three min_three max_four min_four   -- for this text's walks alone
set_option linter.unusedVariables false
set_option linter.unusedSimpArgs false

/-! ### route_Right: function 12 -/
def route_Right.f (a0_0 : Int) (a0_1 : Int) (a0_2 : Int) : Option (Bool) := if a0_1 ≥ 0 then (if a0_1 ≤ 32 then ((route_mask.f a0_1).bind fun t138 => (some ((Go.bits .andNot .u32 a0_0 t138) == 0))) else (some false)) else (some false)
set_option maxHeartbeats 8000000 in
set_option maxRecDepth 100000 in
theorem route_Right.calls (a0_0 : Int) (a0_1 : Int) (a0_2 : Int) (r : Bool) (w : World) (h : route_Right.f a0_0 a0_1 a0_2 = some r) :
  Calls Tryd.prog 12 #[.agg #[.int .u32 a0_0, .int .i64 a0_1, .int .u32 a0_2]] w fun e w' => e = .returned (.bool r) ∧ Below w.heap.size w w' := by
 have hu44 := Tryd.underlying44
 have HB := Aside0.mk (Below.refl w.heap.size w)
 have H : (if a0_1 ≥ 0 then (if a0_1 ≤ 32 then ((route_mask.f a0_1).bind fun t138 => (some ((Go.bits .andNot .u32 a0_0 t138) == 0))) else (some false)) else (some false)) = some r := h
 clear h
 by_cases c2 : a0_1 ≥ 0
 ·rw [if_pos c2] at H
  have c2b0 : decide (0 ≤ a0_1) = true := decide_eq_true c2
  clear c2
  by_cases c3 : a0_1 ≤ 32
  ·rw [if_pos c3] at H
   have c3b0 : decide (a0_1 ≤ 32) = true := decide_eq_true c3
   clear c3
   replace H := Option.bind_eq_some_iff.mp H
   obtain ⟨t138, A40, H⟩ := H
   replace H : (some ((Go.bits .andNot .u32 a0_0 t138) == 0)) = some r := H
   have A4 := Aside0.mk A40
   clear A40
   obtain rfl := Option.some.inj H
   go_enter Tryd.func12, Tryd.ntmps12
   go_wp2_with (first | ((with_reducible refine gate_dst (N := 1) rfl ?_); refine box_event ?hg_1 (N := 1) ?hd_1 (cs := #[.int .u32 a0_0, .int .i64 a0_1, .int .u32 a0_2]) (t := 44) ?hr_1 ?_; (case hd_1 => rfl); (case hg_1 => rfl); (case hr_1 => first | (go_simp; done) | (go_simp; rfl)); intro gb137 hg w5 hbox hb; have n0_ := Aside0.mk (below_step (by repeat (first | (with_reducible first | exact HB.out | apply below_alloc | apply pw_below_drewN | apply below_drew1) | exact HB.out)) hb); have n1_ := Aside0.mk (hbox); have n2_ := Aside0.mk ((by rw [hg]; exact (below_size (by repeat (first | (with_reducible first | exact HB.out | apply below_alloc | apply pw_below_drewN | apply below_drew1) | exact HB.out))) : w.heap.size ≤ gb137)); have n3_ := Aside0.mk ((by rw [hg]; exact (below_size (by repeat (first | (with_reducible first | exact HB.out | apply below_alloc | apply pw_below_drewN | apply below_drew1) | exact HB.out))) : w.heap.size ≤ gb137)); clear HB; have HB := n0_; have BK137 := n1_; have GW137 := n2_; have GE137 := n3_; clear n0_ n1_ n2_ n3_; clear hb hbox hg; have hcz6_0 : w5.cell? ⟨gb137, 0, none⟩ = some (.int .u32 a0_0) := (blk_cell BK137.out 0).trans rfl; have hcz6_1 : w5.cell? ⟨gb137, 1, none⟩ = some (.int .i64 a0_1) := (blk_cell BK137.out 1).trans rfl; have hcz6_2 : w5.cell? ⟨gb137, 2, none⟩ = some (.int .u32 a0_2) := (blk_cell BK137.out 2).trans rfl; have hfz6_0 := blk_frozen BK137.out 0; have hfz6_1 := blk_frozen BK137.out 1; have hfz6_2 := blk_frozen BK137.out 2) | (go_at_call 27; (with_reducible refine (route_mask.calls a0_1 t138 _ A4.out).mono ?_); rintro e w' ⟨rfl, ⟨nd, rfl⟩⟩; (try first | exact ⟨rfl, _, World.drewN_drewN _ _ _⟩ | exact ⟨rfl, _, Eq.trans (World.drewN_drewN _ _ _) (congrArg (World.drewN _) (Nat.add_assoc _ _ _))⟩)))
   repeat (go_quiet (first | ((with_reducible refine gate_dst (N := 1) rfl ?_); refine box_event ?hg_2 (N := 1) ?hd_2 (cs := #[.int .u32 a0_0, .int .i64 a0_1, .int .u32 a0_2]) (t := 44) ?hr_2 ?_; (case hd_2 => rfl); (case hg_2 => rfl); (case hr_2 => first | (go_simp; done) | (go_simp; rfl)); intro gb137 hg w5 hbox hb; have n0_ := Aside0.mk (below_step (by repeat (first | (with_reducible first | exact HB.out | apply below_alloc | apply pw_below_drewN | apply below_drew1) | exact HB.out)) hb); have n1_ := Aside0.mk (hbox); have n2_ := Aside0.mk ((by rw [hg]; exact (below_size (by repeat (first | (with_reducible first | exact HB.out | apply below_alloc | apply pw_below_drewN | apply below_drew1) | exact HB.out))) : w.heap.size ≤ gb137)); have n3_ := Aside0.mk ((by rw [hg]; exact (below_size (by repeat (first | (with_reducible first | exact HB.out | apply below_alloc | apply pw_below_drewN | apply below_drew1) | exact HB.out))) : w.heap.size ≤ gb137)); clear HB; have HB := n0_; have BK137 := n1_; have GW137 := n2_; have GE137 := n3_; clear n0_ n1_ n2_ n3_; clear hb hbox hg; have hcz6_0 : w5.cell? ⟨gb137, 0, none⟩ = some (.int .u32 a0_0) := (blk_cell BK137.out 0).trans rfl; have hcz6_1 : w5.cell? ⟨gb137, 1, none⟩ = some (.int .i64 a0_1) := (blk_cell BK137.out 1).trans rfl; have hcz6_2 : w5.cell? ⟨gb137, 2, none⟩ = some (.int .u32 a0_2) := (blk_cell BK137.out 2).trans rfl; have hfz6_0 := blk_frozen BK137.out 0; have hfz6_1 := blk_frozen BK137.out 1; have hfz6_2 := blk_frozen BK137.out 2) | (go_at_call 27; (with_reducible refine (route_mask.calls a0_1 t138 _ A4.out).mono ?_); rintro e w' ⟨rfl, ⟨nd, rfl⟩⟩; (try first | exact ⟨rfl, _, World.drewN_drewN _ _ _⟩ | exact ⟨rfl, _, Eq.trans (World.drewN_drewN _ _ _) (congrArg (World.drewN _) (Nat.add_assoc _ _ _))⟩))); try go_wp2_with (first | ((with_reducible refine gate_dst (N := 1) rfl ?_); refine box_event ?hg_3 (N := 1) ?hd_3 (cs := #[.int .u32 a0_0, .int .i64 a0_1, .int .u32 a0_2]) (t := 44) ?hr_3 ?_; (case hd_3 => rfl); (case hg_3 => rfl); (case hr_3 => first | (go_simp; done) | (go_simp; rfl)); intro gb137 hg w5 hbox hb; have n0_ := Aside0.mk (below_step (by repeat (first | (with_reducible first | exact HB.out | apply below_alloc | apply pw_below_drewN | apply below_drew1) | exact HB.out)) hb); have n1_ := Aside0.mk (hbox); have n2_ := Aside0.mk ((by rw [hg]; exact (below_size (by repeat (first | (with_reducible first | exact HB.out | apply below_alloc | apply pw_below_drewN | apply below_drew1) | exact HB.out))) : w.heap.size ≤ gb137)); have n3_ := Aside0.mk ((by rw [hg]; exact (below_size (by repeat (first | (with_reducible first | exact HB.out | apply below_alloc | apply pw_below_drewN | apply below_drew1) | exact HB.out))) : w.heap.size ≤ gb137)); clear HB; have HB := n0_; have BK137 := n1_; have GW137 := n2_; have GE137 := n3_; clear n0_ n1_ n2_ n3_; clear hb hbox hg; have hcz6_0 : w5.cell? ⟨gb137, 0, none⟩ = some (.int .u32 a0_0) := (blk_cell BK137.out 0).trans rfl; have hcz6_1 : w5.cell? ⟨gb137, 1, none⟩ = some (.int .i64 a0_1) := (blk_cell BK137.out 1).trans rfl; have hcz6_2 : w5.cell? ⟨gb137, 2, none⟩ = some (.int .u32 a0_2) := (blk_cell BK137.out 2).trans rfl; have hfz6_0 := blk_frozen BK137.out 0; have hfz6_1 := blk_frozen BK137.out 1; have hfz6_2 := blk_frozen BK137.out 2) | (go_at_call 27; (with_reducible refine (route_mask.calls a0_1 t138 _ A4.out).mono ?_); rintro e w' ⟨rfl, ⟨nd, rfl⟩⟩; (try first | exact ⟨rfl, _, World.drewN_drewN _ _ _⟩ | exact ⟨rfl, _, Eq.trans (World.drewN_drewN _ _ _) (congrArg (World.drewN _) (Nat.add_assoc _ _ _))⟩))))
   go_ret
   exact ⟨by first | rfl | (simp [errW_none, errW_some] <;> rfl) | (simp [*, errW_none, errW_some] <;> rfl), by repeat (first | (with_reducible first | exact HB.out | apply below_alloc | apply pw_below_drewN | apply below_drew1 | refine below_set ?_ GE137.out) | exact HB.out)⟩
  ·rw [if_neg c3] at H
   have c3b0 : decide (a0_1 ≤ 32) = false := decide_eq_false c3
   clear c3
   obtain rfl := Option.some.inj H
   go_enter Tryd.func12, Tryd.ntmps12
   go_wp2_with (first | ((with_reducible refine gate_dst (N := 1) rfl ?_); refine box_event ?hg_4 (N := 1) ?hd_4 (cs := #[.int .u32 a0_0, .int .i64 a0_1, .int .u32 a0_2]) (t := 44) ?hr_4 ?_; (case hd_4 => rfl); (case hg_4 => rfl); (case hr_4 => first | (go_simp; done) | (go_simp; rfl)); intro gb137 hg w7 hbox hb; have n0_ := Aside0.mk (below_step (by repeat (first | (with_reducible first | exact HB.out | apply below_alloc | apply pw_below_drewN | apply below_drew1) | exact HB.out)) hb); have n1_ := Aside0.mk (hbox); have n2_ := Aside0.mk ((by rw [hg]; exact (below_size (by repeat (first | (with_reducible first | exact HB.out | apply below_alloc | apply pw_below_drewN | apply below_drew1) | exact HB.out))) : w.heap.size ≤ gb137)); have n3_ := Aside0.mk ((by rw [hg]; exact (below_size (by repeat (first | (with_reducible first | exact HB.out | apply below_alloc | apply pw_below_drewN | apply below_drew1) | exact HB.out))) : w.heap.size ≤ gb137)); clear HB; have HB := n0_; have BK137 := n1_; have GW137 := n2_; have GE137 := n3_; clear n0_ n1_ n2_ n3_; clear hb hbox hg; have hcz8_0 : w7.cell? ⟨gb137, 0, none⟩ = some (.int .u32 a0_0) := (blk_cell BK137.out 0).trans rfl; have hcz8_1 : w7.cell? ⟨gb137, 1, none⟩ = some (.int .i64 a0_1) := (blk_cell BK137.out 1).trans rfl; have hcz8_2 : w7.cell? ⟨gb137, 2, none⟩ = some (.int .u32 a0_2) := (blk_cell BK137.out 2).trans rfl; have hfz8_0 := blk_frozen BK137.out 0; have hfz8_1 := blk_frozen BK137.out 1; have hfz8_2 := blk_frozen BK137.out 2))
   repeat (go_quiet (first | ((with_reducible refine gate_dst (N := 1) rfl ?_); refine box_event ?hg_5 (N := 1) ?hd_5 (cs := #[.int .u32 a0_0, .int .i64 a0_1, .int .u32 a0_2]) (t := 44) ?hr_5 ?_; (case hd_5 => rfl); (case hg_5 => rfl); (case hr_5 => first | (go_simp; done) | (go_simp; rfl)); intro gb137 hg w7 hbox hb; have n0_ := Aside0.mk (below_step (by repeat (first | (with_reducible first | exact HB.out | apply below_alloc | apply pw_below_drewN | apply below_drew1) | exact HB.out)) hb); have n1_ := Aside0.mk (hbox); have n2_ := Aside0.mk ((by rw [hg]; exact (below_size (by repeat (first | (with_reducible first | exact HB.out | apply below_alloc | apply pw_below_drewN | apply below_drew1) | exact HB.out))) : w.heap.size ≤ gb137)); have n3_ := Aside0.mk ((by rw [hg]; exact (below_size (by repeat (first | (with_reducible first | exact HB.out | apply below_alloc | apply pw_below_drewN | apply below_drew1) | exact HB.out))) : w.heap.size ≤ gb137)); clear HB; have HB := n0_; have BK137 := n1_; have GW137 := n2_; have GE137 := n3_; clear n0_ n1_ n2_ n3_; clear hb hbox hg; have hcz8_0 : w7.cell? ⟨gb137, 0, none⟩ = some (.int .u32 a0_0) := (blk_cell BK137.out 0).trans rfl; have hcz8_1 : w7.cell? ⟨gb137, 1, none⟩ = some (.int .i64 a0_1) := (blk_cell BK137.out 1).trans rfl; have hcz8_2 : w7.cell? ⟨gb137, 2, none⟩ = some (.int .u32 a0_2) := (blk_cell BK137.out 2).trans rfl; have hfz8_0 := blk_frozen BK137.out 0; have hfz8_1 := blk_frozen BK137.out 1; have hfz8_2 := blk_frozen BK137.out 2)); try go_wp2_with (first | ((with_reducible refine gate_dst (N := 1) rfl ?_); refine box_event ?hg_6 (N := 1) ?hd_6 (cs := #[.int .u32 a0_0, .int .i64 a0_1, .int .u32 a0_2]) (t := 44) ?hr_6 ?_; (case hd_6 => rfl); (case hg_6 => rfl); (case hr_6 => first | (go_simp; done) | (go_simp; rfl)); intro gb137 hg w7 hbox hb; have n0_ := Aside0.mk (below_step (by repeat (first | (with_reducible first | exact HB.out | apply below_alloc | apply pw_below_drewN | apply below_drew1) | exact HB.out)) hb); have n1_ := Aside0.mk (hbox); have n2_ := Aside0.mk ((by rw [hg]; exact (below_size (by repeat (first | (with_reducible first | exact HB.out | apply below_alloc | apply pw_below_drewN | apply below_drew1) | exact HB.out))) : w.heap.size ≤ gb137)); have n3_ := Aside0.mk ((by rw [hg]; exact (below_size (by repeat (first | (with_reducible first | exact HB.out | apply below_alloc | apply pw_below_drewN | apply below_drew1) | exact HB.out))) : w.heap.size ≤ gb137)); clear HB; have HB := n0_; have BK137 := n1_; have GW137 := n2_; have GE137 := n3_; clear n0_ n1_ n2_ n3_; clear hb hbox hg; have hcz8_0 : w7.cell? ⟨gb137, 0, none⟩ = some (.int .u32 a0_0) := (blk_cell BK137.out 0).trans rfl; have hcz8_1 : w7.cell? ⟨gb137, 1, none⟩ = some (.int .i64 a0_1) := (blk_cell BK137.out 1).trans rfl; have hcz8_2 : w7.cell? ⟨gb137, 2, none⟩ = some (.int .u32 a0_2) := (blk_cell BK137.out 2).trans rfl; have hfz8_0 := blk_frozen BK137.out 0; have hfz8_1 := blk_frozen BK137.out 1; have hfz8_2 := blk_frozen BK137.out 2)))
   go_ret
   exact ⟨by first | rfl | (simp [errW_none, errW_some] <;> rfl) | (simp [*, errW_none, errW_some] <;> rfl), by repeat (first | (with_reducible first | exact HB.out | apply below_alloc | apply pw_below_drewN | apply below_drew1 | refine below_set ?_ GE137.out) | exact HB.out)⟩
 ·rw [if_neg c2] at H
  have c2b0 : decide (0 ≤ a0_1) = false := decide_eq_false c2
  clear c2
  obtain rfl := Option.some.inj H
  go_enter Tryd.func12, Tryd.ntmps12
  go_wp2_with (first | ((with_reducible refine gate_dst (N := 1) rfl ?_); refine box_event ?hg_7 (N := 1) ?hd_7 (cs := #[.int .u32 a0_0, .int .i64 a0_1, .int .u32 a0_2]) (t := 44) ?hr_7 ?_; (case hd_7 => rfl); (case hg_7 => rfl); (case hr_7 => first | (go_simp; done) | (go_simp; rfl)); intro gb137 hg w9 hbox hb; have n0_ := Aside0.mk (below_step (by repeat (first | (with_reducible first | exact HB.out | apply below_alloc | apply pw_below_drewN | apply below_drew1) | exact HB.out)) hb); have n1_ := Aside0.mk (hbox); have n2_ := Aside0.mk ((by rw [hg]; exact (below_size (by repeat (first | (with_reducible first | exact HB.out | apply below_alloc | apply pw_below_drewN | apply below_drew1) | exact HB.out))) : w.heap.size ≤ gb137)); have n3_ := Aside0.mk ((by rw [hg]; exact (below_size (by repeat (first | (with_reducible first | exact HB.out | apply below_alloc | apply pw_below_drewN | apply below_drew1) | exact HB.out))) : w.heap.size ≤ gb137)); clear HB; have HB := n0_; have BK137 := n1_; have GW137 := n2_; have GE137 := n3_; clear n0_ n1_ n2_ n3_; clear hb hbox hg; have hcz10_0 : w9.cell? ⟨gb137, 0, none⟩ = some (.int .u32 a0_0) := (blk_cell BK137.out 0).trans rfl; have hcz10_1 : w9.cell? ⟨gb137, 1, none⟩ = some (.int .i64 a0_1) := (blk_cell BK137.out 1).trans rfl; have hcz10_2 : w9.cell? ⟨gb137, 2, none⟩ = some (.int .u32 a0_2) := (blk_cell BK137.out 2).trans rfl; have hfz10_0 := blk_frozen BK137.out 0; have hfz10_1 := blk_frozen BK137.out 1; have hfz10_2 := blk_frozen BK137.out 2))
  repeat (go_quiet (first | ((with_reducible refine gate_dst (N := 1) rfl ?_); refine box_event ?hg_8 (N := 1) ?hd_8 (cs := #[.int .u32 a0_0, .int .i64 a0_1, .int .u32 a0_2]) (t := 44) ?hr_8 ?_; (case hd_8 => rfl); (case hg_8 => rfl); (case hr_8 => first | (go_simp; done) | (go_simp; rfl)); intro gb137 hg w9 hbox hb; have n0_ := Aside0.mk (below_step (by repeat (first | (with_reducible first | exact HB.out | apply below_alloc | apply pw_below_drewN | apply below_drew1) | exact HB.out)) hb); have n1_ := Aside0.mk (hbox); have n2_ := Aside0.mk ((by rw [hg]; exact (below_size (by repeat (first | (with_reducible first | exact HB.out | apply below_alloc | apply pw_below_drewN | apply below_drew1) | exact HB.out))) : w.heap.size ≤ gb137)); have n3_ := Aside0.mk ((by rw [hg]; exact (below_size (by repeat (first | (with_reducible first | exact HB.out | apply below_alloc | apply pw_below_drewN | apply below_drew1) | exact HB.out))) : w.heap.size ≤ gb137)); clear HB; have HB := n0_; have BK137 := n1_; have GW137 := n2_; have GE137 := n3_; clear n0_ n1_ n2_ n3_; clear hb hbox hg; have hcz10_0 : w9.cell? ⟨gb137, 0, none⟩ = some (.int .u32 a0_0) := (blk_cell BK137.out 0).trans rfl; have hcz10_1 : w9.cell? ⟨gb137, 1, none⟩ = some (.int .i64 a0_1) := (blk_cell BK137.out 1).trans rfl; have hcz10_2 : w9.cell? ⟨gb137, 2, none⟩ = some (.int .u32 a0_2) := (blk_cell BK137.out 2).trans rfl; have hfz10_0 := blk_frozen BK137.out 0; have hfz10_1 := blk_frozen BK137.out 1; have hfz10_2 := blk_frozen BK137.out 2)); try go_wp2_with (first | ((with_reducible refine gate_dst (N := 1) rfl ?_); refine box_event ?hg_9 (N := 1) ?hd_9 (cs := #[.int .u32 a0_0, .int .i64 a0_1, .int .u32 a0_2]) (t := 44) ?hr_9 ?_; (case hd_9 => rfl); (case hg_9 => rfl); (case hr_9 => first | (go_simp; done) | (go_simp; rfl)); intro gb137 hg w9 hbox hb; have n0_ := Aside0.mk (below_step (by repeat (first | (with_reducible first | exact HB.out | apply below_alloc | apply pw_below_drewN | apply below_drew1) | exact HB.out)) hb); have n1_ := Aside0.mk (hbox); have n2_ := Aside0.mk ((by rw [hg]; exact (below_size (by repeat (first | (with_reducible first | exact HB.out | apply below_alloc | apply pw_below_drewN | apply below_drew1) | exact HB.out))) : w.heap.size ≤ gb137)); have n3_ := Aside0.mk ((by rw [hg]; exact (below_size (by repeat (first | (with_reducible first | exact HB.out | apply below_alloc | apply pw_below_drewN | apply below_drew1) | exact HB.out))) : w.heap.size ≤ gb137)); clear HB; have HB := n0_; have BK137 := n1_; have GW137 := n2_; have GE137 := n3_; clear n0_ n1_ n2_ n3_; clear hb hbox hg; have hcz10_0 : w9.cell? ⟨gb137, 0, none⟩ = some (.int .u32 a0_0) := (blk_cell BK137.out 0).trans rfl; have hcz10_1 : w9.cell? ⟨gb137, 1, none⟩ = some (.int .i64 a0_1) := (blk_cell BK137.out 1).trans rfl; have hcz10_2 : w9.cell? ⟨gb137, 2, none⟩ = some (.int .u32 a0_2) := (blk_cell BK137.out 2).trans rfl; have hfz10_0 := blk_frozen BK137.out 0; have hfz10_1 := blk_frozen BK137.out 1; have hfz10_2 := blk_frozen BK137.out 2)))
  go_ret
  exact ⟨by first | rfl | (simp [errW_none, errW_some] <;> rfl) | (simp [*, errW_none, errW_some] <;> rfl), by repeat (first | (with_reducible first | exact HB.out | apply below_alloc | apply pw_below_drewN | apply below_drew1 | refine below_set ?_ GE137.out) | exact HB.out)⟩

end Go.Proofs.YtdpoknfidlekbaaDoor.Pr
end

section
namespace Go.Proofs.YtdpoknfidlekbaaDoor.PR
open Go.RowKit Go.Proofs.YtdpoknfidlekbaaDoor Go.Proofs.YtdpoknfidlekbaaDoor.Pr Go.Proofs.YtdpoknfidlekbaaDoorW.PrintWords Go.Proofs.YtdpoknfidlekbaaDoorW.PrintLast Go.Proofs.YtdpoknfidlekbaaDoorW.PrintMore
set_option linter.unusedVariables false
set_option linter.unusedSimpArgs false

abbrev Rt := S44
theorem wrapR {x : Int} (h0 : 0 ≤ x) (h1 : x < 9223372036854775808) : wrap64 x = x := by unfold wrap64; omega
theorem rd_rt (l : List Rt) {i : Nat} (h : i < l.length) : rd_T44 l (i : Int) = l[i] := by
  unfold rd_T44
  rw [Int.toNat_natCast, List.getD_eq_getElem?_getD, List.getElem?_eq_getElem h]
  rfl

theorem wrap_u64' (n : Int) : IntKind.u64.wrap n = n % 18446744073709551616 := by simp [IntKind.wrap, IntKind.bits, IntKind.signed]
/-! ### masks -/
theorem and_mask (a s : Nat) (hs : s ≤ 32) (ha : a < 2 ^ 32) : a &&& (2 ^ 32 - 2 ^ s) = a / 2 ^ s * 2 ^ s := by
  have e : 2 ^ 32 - 2 ^ s = (2 ^ (32 - s) - 1) <<< s := by
    rw [Nat.shiftLeft_eq, Nat.sub_mul, ← Nat.pow_add, Nat.one_mul]
    congr 2; omega
  rw [e, ← Nat.shiftLeft_eq, ← Nat.shiftRight_eq_div_pow]
  apply Nat.eq_of_testBit_eq
  intro i
  rw [Nat.testBit_and, Nat.testBit_shiftLeft, Nat.testBit_shiftLeft, Nat.testBit_shiftRight, Nat.testBit_two_pow_sub_one]
  by_cases h : s ≤ i
  · rw [decide_eq_true h, show s + (i - s) = i by omega]
    by_cases h2 : i < 32
    · rw [show decide (i - s < 32 - s) = true from decide_eq_true (by omega)]
      simp [h]
    · rw [Nat.testBit_lt_two_pow (Nat.lt_of_lt_of_le ha (Nat.pow_le_pow_right (by decide) (by omega)))]
      simp
  · rw [decide_eq_false h]
    simp [h]
theorem andNot_mask (a s : Nat) (hs : s ≤ 32) (ha : a < 2 ^ 32) : bits .andNot .u32 (a : Int) ((2 ^ 32 - 2 ^ s : Nat) : Int) = ((a % 2 ^ s : Nat) : Int) := by
  have hp : 0 < 2 ^ s := Nat.two_pow_pos s
  have hle : 2 ^ s ≤ 2 ^ 32 := Nat.pow_le_pow_right (by decide) hs
  have hm : (2 ^ 32 - 2 ^ s) % 2 ^ 32 = 2 ^ 32 - 2 ^ s := Nat.mod_eq_of_lt (by omega)
  have hr : a % 2 ^ s < 2 ^ s := Nat.mod_lt _ hp
  simp only [bits, BitVec.ofInt_natCast, BitVec.toNat_and, BitVec.toNat_not, BitVec.toNat_ofNat]
  rw [show IntKind.u32.bits = 32 from rfl, Nat.mod_eq_of_lt ha, hm, show 2 ^ 32 - 1 - (2 ^ 32 - 2 ^ s) = 2 ^ s - 1 by omega, Nat.and_two_pow_sub_one_eq_mod, IntKind.wrap_u32]
  have : a % 2 ^ s ≤ a := Nat.mod_le _ _
  omega
theorem bits_and_mask (a s : Nat) (hs : s ≤ 32) (ha : a < 2 ^ 32) : bits .and .u32 (a : Int) ((2 ^ 32 - 2 ^ s : Nat) : Int) = ((a / 2 ^ s * 2 ^ s : Nat) : Int) := by
  have hp : 0 < 2 ^ s := Nat.two_pow_pos s
  rw [(bits_nat .u32 32 (by decide) (fun n h0 h1 => by rw [IntKind.wrap_u32]; omega) a (2 ^ 32 - 2 ^ s) ha (by omega)).1, and_mask a s hs ha]
theorem mask_eq (b : Nat) (hb : b ≤ 32) : route_mask.f (b : Int) = some ((2 ^ 32 - 2 ^ (32 - b) : Nat) : Int) := by
  unfold route_mask.f
  have hp : 0 < 2 ^ (32 - b) := Nat.two_pow_pos _
  have hle : 2 ^ (32 - b) ≤ 2 ^ 32 := Nat.pow_le_pow_right (by decide) (by omega)
  have e1 : shl .u64 1 (32 - (b : Int)) = ((2 ^ (32 - b) : Nat) : Int) := by
    unfold shl
    have : (32 - (b : Int)).toNat = 32 - b := by omega
    rw [this, show IntKind.u64.bits = 64 from rfl, Nat.min_eq_left (by omega), Int.one_mul]
    have e2 : (2 : Int) ^ (32 - b) = ((2 ^ (32 - b) : Nat) : Int) := by simp
    rw [e2, wrap_u64']
    omega
  rw [wrapR (by omega) (by omega), if_pos (by omega), e1, wrap_u64']
  congr 1
  omega

/-! ### what a route is -/
def okU (a : Int) : Prop := 0 ≤ a ∧ a < 4294967296
theorem okU_wf {a : Int} (h : (Lit.int .u32 a).wf = true) : okU a := by
  have e1 : IntKind.u32.min = 0 := by decide
  have e2 : IntKind.u32.max = 4294967295 := by decide
  simp [Lit.wf, e1, e2] at h
  unfold okU; omega
def sh (x : Rt) : Nat := 32 - x.f1.toNat
def okR (x : Rt) : Prop := 0 ≤ x.f1 ∧ x.f1 ≤ 32 ∧ x.f0.toNat % 2 ^ sh x = 0
instance (x : Rt) : Decidable (okR x) := by unfold okR; infer_instance
def inR (x : Rt) (a : Int) : Prop := okR x ∧ a.toNat / 2 ^ sh x = x.f0.toNat / 2 ^ sh x
instance (x : Rt) (a : Int) : Decidable (inR x a) := by unfold inR; infer_instance
theorem right_eq (x : Rt) (h : okU x.f0) : route_Right.f x.f0 x.f1 x.f2 = some (decide (okR x)) := by
  obtain ⟨h0, h1⟩ := h
  unfold route_Right.f
  by_cases c : 0 ≤ x.f1
  · by_cases d : x.f1 ≤ 32
    · rw [if_pos c, if_pos d]
      obtain ⟨b, hb⟩ := Int.eq_ofNat_of_zero_le c
      obtain ⟨n, hn⟩ := Int.eq_ofNat_of_zero_le h0
      have hm := mask_eq b (by omega)
      rw [← hb] at hm
      rw [hm]
      simp only [Option.bind_some]
      have ha := andNot_mask n (32 - b) (by omega) (by omega)
      rw [← hn] at ha
      rw [ha]
      congr 1
      rw [Bool.eq_iff_iff, beq_iff_eq, decide_eq_true_iff]
      unfold okR sh
      rw [hb, hn]
      simp only [Int.toNat_natCast]
      omega
    · rw [if_pos c, if_neg d, decide_eq_false (fun h => d h.2.1)]
  · rw [if_neg c, decide_eq_false (fun h => c h.1)]
/-! ### the reference's -/
theorem tdiv2 (n : Nat) : wrap64 (Int.tdiv (n : Int) 2) = if n < 9223372036854775808 then ((n / 2 : Nat) : Int) else wrap64 (Int.tdiv (n : Int) 2) := by
  split
  · rw [Int.tdiv_eq_ediv_of_nonneg (by omega)]
    unfold wrap64; omega
  · rfl
end Go.Proofs.YtdpoknfidlekbaaDoor.PR
end

section
namespace Go.Proofs.YtdpoknfidlekbaaDoor
open Go.RowKit Go.Proofs.YtdpoknfidlekbaaDoor.Pr Go.Proofs.YtdpoknfidlekbaaDoorW.PrintWords Go.Proofs.YtdpoknfidlekbaaDoorW.PrintLast Go.Proofs.YtdpoknfidlekbaaDoorW.PrintMore
set_option linter.unusedVariables false
set_option linter.unusedSimpArgs false

def rtB (a : Int) (j : Nat) : Int := a / 256 ^ (3 - j) % 256
set_option maxHeartbeats 1000000 in
theorem bytes_calls (a : Int) (w : World) (h0 : 0 ≤ a) (h1 : a < 4294967296) :
    Calls Tryd.prog 13 #[.int .u32 a] w fun e w' => e = .returned (.agg #[.int .u8 (rtB a 0), .int .u8 (rtB a 1), .int .u8 (rtB a 2), .int .u8 (rtB a 3)]) ∧ Below w.heap.size w w' := by
  go_enter Tryd.func13, Tryd.ntmps13
  go_wp2
  refine bodyPost_ret (v := .agg #[.int .u8 (rtB a 0), .int .u8 (rtB a 1), .int .u8 (rtB a 2), .int .u8 (rtB a 3)]) ?_ rfl ⟨rfl, below_alloc (Below.refl _ _) _⟩
  have e0 : rtB a 0 = a / 16777216 := by unfold rtB; simp; omega
  have e1 : rtB a 1 = a / 65536 % 256 := by unfold rtB; simp
  have e2 : rtB a 2 = a / 256 % 256 := by unfold rtB; simp
  have e3 : rtB a 3 = a % 256 := by unfold rtB; simp
  rw [e0, e1, e2, e3]
  simp [results, Tryd.results13, go_sem]
end Go.Proofs.YtdpoknfidlekbaaDoor
end

section
-- written by a program of this session (wip/tools/gen.py) over the kit's print
namespace Go.Proofs.YtdpoknfidlekbaaDoor.Pr
open Go.RowKit Go.Proofs.YtdpoknfidlekbaaDoorW.PrintWords Go.Proofs.YtdpoknfidlekbaaDoorW.PrintLast Go.Proofs.YtdpoknfidlekbaaDoorW.PrintMore
attribute [local go_sem] max2_int min2_int max_two min_two max_three min_three max_four min_four   -- for this text's walks alone
set_option linter.unusedVariables false
set_option linter.unusedSimpArgs false

/-! ### route_octets: function 14 -/
def route_octets.f (a0 : Int) : Option (Int) := some (wrap64 (Int.tdiv (wrap64 (a0 + 7)) 8))
set_option maxHeartbeats 8000000 in
set_option maxRecDepth 100000 in
theorem route_octets.calls (a0 : Int) (r : Int) (w : World) (h : route_octets.f a0 = some r) :
  Calls Tryd.prog 14 #[.int .i64 a0] w fun e w' => e = .returned (.int .i64 r) ∧ Drawn0 w w' := by
 have H : (some (wrap64 (Int.tdiv (wrap64 (a0 + 7)) 8))) = some r := h
 clear h
 obtain rfl := Option.some.inj H
 go_enter Tryd.func14, Tryd.ntmps14
 go_wp2
 go_ret
 exact ⟨by first | rfl | (simp; done) | (simp [*]; done), by repeat (first | exact Drawn0.refl _ | apply Drawn0.step)⟩

end Go.Proofs.YtdpoknfidlekbaaDoor.Pr
end

section
namespace Go.Proofs.YtdpoknfidlekbaaDoor
open Go.RowKit Go.Proofs.YtdpoknfidlekbaaDoor.Pr Go.Proofs.YtdpoknfidlekbaaDoorW.PrintWords Go.Proofs.YtdpoknfidlekbaaDoorW.PrintLast Go.Proofs.YtdpoknfidlekbaaDoorW.PrintMore
set_option linter.unusedVariables false
set_option linter.unusedSimpArgs false

/-! ### what it computes -/
abbrev RtE := S44
def rt4 (a : Int) : List Int := [rtB a 0, rtB a 1, rtB a 2, rtB a 3]
def rtOct (b : Int) : Nat := ((b + 7) / 8).toNat
def rtEnc1 (x : RtE) : List Int := [x.f1 % 256] ++ (rt4 x.f0).take (rtOct x.f1) ++ rt4 x.f2
def rtEnc (l : List RtE) : List Int := (l.map rtEnc1).flatten
def rtWf (x : RtE) : Prop := (0 ≤ x.f0 ∧ x.f0 < 4294967296) ∧ (0 ≤ x.f2 ∧ x.f2 < 4294967296)
instance (x : RtE) : Decidable (rtWf x) := by unfold rtWf; infer_instance
def rtRight (x : RtE) : Bool := (route_Right.f x.f0 x.f1 x.f2).getD false
theorem rtRight_bits {x : RtE} (h : rtRight x = true) : 0 ≤ x.f1 ∧ x.f1 ≤ 32 := by
  unfold rtRight route_Right.f at h
  by_cases c : x.f1 ≥ 0
  · by_cases d : x.f1 ≤ 32
    · exact ⟨c, d⟩
    · simp [if_pos c, if_neg d] at h
  · simp [if_neg c] at h
theorem right_total (x : RtE) : route_Right.f x.f0 x.f1 x.f2 = some (rtRight x) := by
  unfold rtRight route_Right.f
  by_cases c : x.f1 ≥ 0
  · by_cases d : x.f1 ≤ 32
    · rw [if_pos c, if_pos d]
      unfold route_mask.f
      rw [if_pos (by unfold wrap64; omega)]
      rfl
    · simp [if_pos c, if_neg d]
  · simp [if_neg c]
theorem oct_eq (b : Int) (h0 : 0 ≤ b) (h1 : b ≤ 32) : route_octets.f b = some (rtOct b : Int) := by
  unfold route_octets.f rtOct
  have e1 : wrap64 (b + 7) = b + 7 := by unfold wrap64; omega
  simp only [e1]
  rw [Int.tdiv_eq_ediv_of_nonneg (by omega)]
  congr 1
  unfold wrap64; omega
def route_Encode.f (l : List RtE) : Option (List Int × Int) :=
  if l.length ≤ 1099511627776 ∧ ∀ x ∈ l, rtWf x then
    some (if ∀ x ∈ l, rtRight x = true then (if 255 < (rtEnc l).length then ([], 3) else (rtEnc l, 0)) else ([], 1))
  else none
theorem rd_rte (l : List RtE) {i : Nat} (h : i < l.length) : rd_T44 l (i : Int) = l[i] := by
  unfold rd_T44
  rw [Int.toNat_natCast, List.getD_eq_getElem?_getD, List.getElem?_eq_getElem h]
  rfl
theorem rtEnc_succ (l : List RtE) {i : Nat} (h : i < l.length) : rtEnc (l.take (i + 1)) = rtEnc (l.take i) ++ [l[i].f1 % 256] ++ (rt4 l[i].f0).take (rtOct l[i].f1) ++ rt4 l[i].f2 := by
  unfold rtEnc
  rw [List.take_succ_eq_append_getElem h, List.map_append, List.flatten_append, List.map_cons, List.map_nil, List.flatten_cons, List.flatten_nil, List.append_nil]
  unfold rtEnc1
  simp only [List.append_assoc]
theorem rtEnc_len : ∀ (l : List RtE), (rtEnc l).length ≤ 9 * l.length := by
  intro l
  induction l with
  | nil => simp [rtEnc]
  | cons x l ih =>
    have e : rtEnc (x :: l) = rtEnc1 x ++ rtEnc l := by simp [rtEnc]
    have e1 : (rtEnc1 x).length ≤ 9 := by simp [rtEnc1, rt4]; omega
    rw [e, List.length_append, List.length_cons]; omega
/-- An array of four bytes, as a row. -/
theorem arr4 {w : World} {g : Nat} {a b c d : Int} (h : w.heap[g]? = some (.cells #[.int .u8 a, .int .u8 b, .int .u8 c, .int .u8 d] 46 (0, 0))) : (Kd.int .u8).C w (some ⟨g, 0, none⟩) ([a, b, c, d] : List Int).length [a, b, c, d] := by
  refine ⟨rfl, by simp, fun _ => ⟨_, rfl, fun j p hj => ⟨[.int .u8 p], rfl, rfl, fun i u hu => ?_⟩⟩⟩
  have hj4 : j < 4 := by
    have := (List.getElem?_eq_some_iff.1 hj).1
    simpa using this
  obtain rfl : i = 0 := by
    have := (List.getElem?_eq_some_iff.1 hu).1
    simp only [List.length_cons, List.length_nil] at this; omega
  simp only [List.getElem?_cons_zero, Option.some.injEq] at hu
  subst hu
  have hsz : (Kd.int .u8).sz = 1 := rfl
  rw [hsz, Nat.mul_one, Nat.add_zero]
  have ea : (⟨g, 0, none⟩ : Addr).add j = ⟨g, j, none⟩ := by simp [Addr.add]; omega
  rw [ea, blk_cell h j]
  obtain rfl | rfl | rfl | rfl : j = 0 ∨ j = 1 ∨ j = 2 ∨ j = 3 := by omega
  all_goals (simp only [List.getElem?_cons_zero, List.getElem?_cons_succ, Option.some.injEq] at hj; subst hj; simp)
theorem arr4t {w : World} {g : Nat} {a b c d : Int} (h : w.heap[g]? = some (.cells #[.int .u8 a, .int .u8 b, .int .u8 c, .int .u8 d] 46 (0, 0))) (m : Nat) (hm : m ≤ 4) : (Kd.int .u8).C w (some ⟨g, 0, none⟩) m (([a, b, c, d] : List Int).take m) := by
  have h1 := Kd.C_take (m := m) (arr4 h) (by simpa using hm)
  have hl : (([a, b, c, d] : List Int).take m).length = m := by rw [List.length_take]; simp; omega
  rw [hl] at h1
  exact h1
theorem slice_net (g m : Nat) (hm : m ≤ 4) (W : World) : (Instr.sliceAt 46 (.pointer (some ⟨g, 0, none⟩)) none (some (.int .i64 (m : Int))) none).run Tryd.prog W = .ok (.slice (some ⟨g, 0, none⟩) m 4) W := by
  have hl : Tryd.prog.arrayLen 46 = 4 := by kernel_rfl
  have ht : Tryd.prog.underlying 46 = some (.array (Tryd.prog.arrayLen 46) (Tryd.prog.elem 46)) := by kernel_rfl
  have he : Tryd.prog.elem 46 = 5 := by kernel_rfl
  rw [run_sliceAt_array_h W 46 ⟨g, 0, none⟩ ht .i64 (m : Int) (by omega) (by rw [hl]; omega), hl, he]
  simp [slicedAt, Addr.add, info5, sizeOf, go_sem]
set_option maxHeartbeats 1000000 in
set_option maxRecDepth 100000 in
theorem route_Encode.calls (A0 : Option Addr) (c0 : Nat) (l0 : List RtE) (r1 : List Int) (r2 : Int) (w : World) (hr0 : Kd.C k44 w A0 l0.length l0) (hc0 : l0.length ≤ c0) (h : route_Encode.f l0 = some (r1, r2)) :
    Calls Tryd.prog 4 #[.slice A0 l0.length c0] w fun e w' => ∃ v0_ : Value, e = .returned (.tuple #[v0_, .int .i64 r2]) ∧ Kd.R (Kd.int .u8) 5 w' w.heap.size (fun _ => True) v0_ r1 ∧ Below w.heap.size w w' := by
  have hu32 := Tryd.underlying44
  have HR0 := Aside0.mk hr0
  have HC0 := Aside0.mk hc0
  clear hr0 hc0
  have HB := Aside0.mk (Below.refl w.heap.size w)
  unfold route_Encode.f at h
  by_cases hg : l0.length ≤ 1099511627776 ∧ ∀ x ∈ l0, rtWf x
  case neg => rw [if_neg hg] at h; cases h
  rw [if_pos hg] at h
  obtain ⟨hbig, hwf⟩ := hg
  have H := Aside0.mk (Option.some.inj h)
  clear h
  have HBIG := Aside0.mk hbig
  have HWF := Aside0.mk hwf
  clear hbig hwf
  go_enter Tryd.func4, Tryd.ntmps4
  go_wp2
  go_loopg [4, 11] (l0.length + 1) (fun kq v4 v11 w' => ∃ (i : Nat), v11 = .int .i64 i ∧ Aside0 (i ≤ l0.length ∧ l0.length + 1 ≤ kq + i) ∧ Aside0 (∀ x ∈ l0.take i, rtRight x = true) ∧ Aside0 (Kd.R (Kd.int .u8) 5 w' w.heap.size (fun _ => True) v4 (rtEnc (l0.take i))) ∧ Aside0 (Below w.heap.size w w'))
  case atStart => exact ⟨0, rfl, ⟨by omega, by omega⟩, ⟨by simp⟩, ⟨by simp only [List.take_zero]; exact Kd.R_nil _ _ _ _ _⟩, ⟨by repeat (first | (with_reducible first | exact HB.out | apply below_alloc | apply pw_below_drewN | apply below_drew1) | exact HB.out)⟩⟩
  case round =>
    obtain ⟨i, rfl, hi, HOK, HO, HB⟩ := hrel
    obtain ⟨k2, rfl⟩ : ∃ m, gk = m + 1 := ⟨gk - 1, by have := hi.out; omega⟩
    by_cases c : i < l0.length
    · have cb : decide ((i : Int) < (l0.length : Int)) = true := decide_eq_true (by omega)
      have p1 : 0 ≤ (i : Int) := by omega
      have q1 : (i : Int) < (l0.length : Int) := by omega
      obtain ⟨ad, e, hx0, hx1, hx2⟩ := at_T44 HR0.out i p1 q1
      cases e
      rw [rd_rte l0 c] at hx0 hx1 hx2
      rw [Int.toNat_natCast] at hx0 hx1 hx2
      obtain ⟨x, hxe⟩ : ∃ x, x = l0[i] := ⟨_, rfl⟩
      rw [← hxe] at hx0 hx1 hx2
      have hxm := HWF.out l0[i] (List.getElem_mem c)
      rw [← hxe] at hxm
      have HX := Aside0.mk hxe
      clear hxe
      have HXM := Aside0.mk (show (0 ≤ x.f0 ∧ x.f0 < 4294967296) ∧ (0 ≤ x.f2 ∧ x.f2 < 4294967296) from hxm)
      clear hxm
      replace hx0 := (HB.out.cell (World.block_lt_of_cell? w _ hx0)).trans hx0
      replace hx1 := (HB.out.cell (World.block_lt_of_cell? w _ hx1)).trans hx1
      replace hx2 := (HB.out.cell (World.block_lt_of_cell? w _ hx2)).trans hx2
      replace p1 := eq_true p1
      replace q1 := eq_true q1
      by_cases r : rtRight x = true
      · have hR := Aside0.mk (show route_Right.f x.f0 x.f1 x.f2 = some true by rw [right_total, r])
        have hbd := Aside0.mk (rtEnc_len (l0.take i))
        go_wp2_with (first
          | (go_at_call 12; (with_reducible refine (route_Right.calls x.f0 x.f1 x.f2 true _ hR.out).mono ?_); rintro e w2 ⟨rfl, hb⟩; have n0_ := Aside0.mk (Kd.R_below (Kd.R_alloc HO.out _) hb); have n1_ := Aside0.mk (below_step (below_alloc HB.out _) hb); have BK6 := Aside0.mk (blk_below (blk_new wr (.cells #[.int .u32 x.f0, .int .i64 x.f1, .int .u32 x.f2] 44 (0, 0))) hb); have GE6 := Aside0.mk (below_size HB.out); clear hb HO HB; have HO := n0_; have HB := n1_; clear n0_ n1_; generalize wr.heap.size = g6 at BK6 GE6 ⊢; have h60 : w2.cell? ⟨g6, 0, none⟩ = some (.int .u32 x.f0) := (blk_cell BK6.out 0).trans rfl; have h62 : w2.cell? ⟨g6, 2, none⟩ = some (.int .u32 x.f2) := (blk_cell BK6.out 2).trans rfl)
          | (go_at_call 13; (with_reducible refine (bytes_calls x.f0 _ HXM.out.1.1 HXM.out.1.2).mono ?_); rintro e w3 ⟨rfl, hb⟩; have n0_ := Aside0.mk (Kd.R_below HO.out hb); have n1_ := Aside0.mk (below_step HB.out hb); have n2_ := Aside0.mk (blk_below BK6.out hb); clear hb HO HB BK6 h60 h62; have HO := n0_; have HB := n1_; have BK6 := n2_; clear n0_ n1_ n2_; have h62 : ∀ o, (w3.alloc o).cell? ⟨g6, 2, none⟩ = some (.int .u32 x.f2) := fun o => (blk_cell (blk_alloc BK6.out o) 2).trans rfl)
          | (go_at_call 13; (with_reducible refine (bytes_calls x.f2 _ HXM.out.2.1 HXM.out.2.2).mono ?_); rintro e w4 ⟨rfl, hb⟩; have n0_ := Aside0.mk (Kd.R_below (Kd.R_alloc HO.out _) hb); have n1_ := Aside0.mk (below_step (below_alloc HB.out _) hb); have n2_ := Aside0.mk (blk_below (blk_alloc BK6.out _) hb); have BK7 := Aside0.mk (blk_below (blk_new w3 (.cells #[.int .u8 (rtB x.f0 0), .int .u8 (rtB x.f0 1), .int .u8 (rtB x.f0 2), .int .u8 (rtB x.f0 3)] 46 (0, 0))) hb); clear hb HO HB BK6 h62; have HO := n0_; have HB := n1_; have BK6 := n2_; clear n0_ n1_ n2_; generalize w3.heap.size = g7 at BK7 ⊢)
          | fail)
        have n0_ := Aside0.mk (Kd.R_drew (Kd.R_alloc HO.out (.cells #[.int .u8 (rtB x.f2 0), .int .u8 (rtB x.f2 1), .int .u8 (rtB x.f2 2), .int .u8 (rtB x.f2 3)] 46 (0, 0))))
        have n1_ := Aside0.mk (below_drew1 (below_alloc HB.out (.cells #[.int .u8 (rtB x.f2 0), .int .u8 (rtB x.f2 1), .int .u8 (rtB x.f2 2), .int .u8 (rtB x.f2 3)] 46 (0, 0))))
        have n2_ := Aside0.mk (blk_drew (blk_alloc BK6.out (.cells #[.int .u8 (rtB x.f2 0), .int .u8 (rtB x.f2 1), .int .u8 (rtB x.f2 2), .int .u8 (rtB x.f2 3)] 46 (0, 0))))
        have n3_ := Aside0.mk (blk_drew (blk_alloc BK7.out (.cells #[.int .u8 (rtB x.f2 0), .int .u8 (rtB x.f2 1), .int .u8 (rtB x.f2 2), .int .u8 (rtB x.f2 3)] 46 (0, 0))))
        have BK8 := Aside0.mk (blk_drew (blk_new w4 (.cells #[.int .u8 (rtB x.f2 0), .int .u8 (rtB x.f2 1), .int .u8 (rtB x.f2 2), .int .u8 (rtB x.f2 3)] 46 (0, 0))))
        clear HO HB BK6 BK7
        have HO := n0_
        have HB := n1_
        have BK6 := n2_
        have BK7 := n3_
        clear n0_ n1_ n2_ n3_
        refine start_ (n := 12) (S := fun w' => w'.cell? ⟨g6, 1, none⟩ = some (.int .i64 x.f1)) (ds := []) #[false, false, false, false, false, false, false, false, false, false, false, false] (by kernel_rfl) rfl rfl ((blk_cell BK6.out 1).trans rfl) (fun hHeld => ?_)
        generalize w4.heap.size = g8 at BK8 ⊢
        generalize (w4.alloc (.cells #[.int .u8 (rtB x.f2 0), .int .u8 (rtB x.f2 1), .int .u8 (rtB x.f2 2), .int .u8 (rtB x.f2 3)] 46 (0, 0))).drew = w5 at HO HB BK6 BK7 BK8 hHeld ⊢
        have hoct := Aside0.mk (oct_eq x.f1 (rtRight_bits r).1 (rtRight_bits r).2)
        have hln := Aside0.mk (show rtOct x.f1 ≤ 4 by have := rtRight_bits r; unfold rtOct; omega)
        have hbd := Aside0.mk (show (rtEnc (l0.take i)).length ≤ 9895604649984 by have := hbd.out; have := HBIG.out; simp only [List.length_take] at *; omega)
        refine pure_ (i := 0) (N := some 24) (v := ?_) (a' := ?_) #[true, false, false, false, false, false, false, false, false, false, false, false] rfl rfl (by kernel_rfl) (fun _ _ _ h => h) (Or.inl ⟨by rfl, ?_⟩) ?_ ?_
        rotate_left
        · intro w'
          go_simp
          with_reducible rfl
        rotate_left
        · simp only [Act.put, List.setIfInBounds_toArray, List.set_cons_zero, List.set_cons_succ, i64_w, i32_w]
          rfl
        refine pure_ (i := 1) (N := some 25) (v := ?_) (a' := ?_) #[true, true, false, false, false, false, false, false, false, false, false, false] rfl rfl (by kernel_rfl) (fun _ _ _ h => h) (Or.inl ⟨by rfl, ?_⟩) ?_ ?_
        rotate_left
        · intro w'
          go_simp
          with_reducible rfl
        rotate_left
        · simp only [Act.put, List.setIfInBounds_toArray, List.set_cons_zero, List.set_cons_succ, i64_w, i32_w]
          rfl
        refine pure_ (i := 6) (N := some 30) (v := ?_) (a' := ?_) #[true, true, false, false, false, false, true, false, false, false, false, false] rfl rfl (by kernel_rfl) (fun _ _ _ h => h) (Or.inl ⟨by rfl, ?_⟩) ?_ ?_
        rotate_left
        · intro w'
          go_simp
          with_reducible rfl
        rotate_left
        · simp only [Act.put, List.setIfInBounds_toArray, List.set_cons_zero, List.set_cons_succ, i64_w, i32_w]
          rfl
        refine take_ (i := 2) (N := some 26) (v := ?_) (a' := ?_) #[true, true, true, false, false, false, true, false, false, false, false, false] rfl rfl (by kernel_rfl) (fun _ _ _ h => h) (Or.inl ⟨by rfl, ?_⟩) hHeld ?_ ?_
        rotate_left
        · intro w' s0
          go_simp
          with_reducible rfl
        rotate_left
        · simp only [Act.put, List.setIfInBounds_toArray, List.set_cons_zero, List.set_cons_succ, i64_w, i32_w]
          rfl
        refine pure_ (i := 3) (N := some 27) (v := ?_) (a' := ?_) #[true, true, true, true, false, false, true, false, false, false, false, false] rfl rfl (by kernel_rfl) (fun _ _ _ h => h) (Or.inl ⟨by rfl, ?_⟩) ?_ ?_
        rotate_left
        · intro w'
          go_simp
          with_reducible rfl
        rotate_left
        · simp only [Act.put, List.setIfInBounds_toArray, List.set_cons_zero, List.set_cons_succ, i64_w, i32_w]
          rfl
        refine take_ (i := 7) (N := some 31) (v := ?_) (a' := ?_) #[true, true, true, true, false, false, true, true, false, false, false, false] rfl rfl (by kernel_rfl) (fun _ _ _ h => h) (Or.inl ⟨by rfl, ?_⟩) hHeld ?_ ?_
        rotate_left
        · intro w' s0
          go_simp
          with_reducible rfl
        rotate_left
        · simp only [Act.put, List.setIfInBounds_toArray, List.set_cons_zero, List.set_cons_succ, i64_w, i32_w]
          rfl
        refine one_ (i := 4) (N := some 28) #[true, true, true, true, true, false, true, true, false, false, false, false] rfl rfl (by kernel_rfl) (by decide) (fun K hK => ?_)
        refine Kd.R_lit_step (Kd.int .u8) _ 5 ?hg_3 (N := 28) ?hd_3 (xs := ([x.f1 % 256] : List Int)) (inner := [.int .u8 (x.f1 % 256)]) (ok := fun _ => True) (okp := fun _ => True) ?hr_3 ?hp_3 (fun _ hk => hk) trivial (Below.refl _ _) (Nat.le_refl _) (by simp) ?_; (case hd_3 => rfl); (case hg_3 => rfl); (case hr_3 => first | (go_simp; done) | (go_simp; rfl)); (case hp_3 => exact (Reps.one (show Kd.M (Kd.int .u8) _ _ _ (x.f1 % 256) [.int .u8 (x.f1 % 256)] from rfl) (Reps.none _ _)))
        intro vl wl hol hb hg_ hnew_
        clear hg_ hnew_
        have HO := Aside0.mk (Kd.R_below HO.out hb)
        have BK6 := Aside0.mk (blk_below BK6.out hb)
        have BK7 := Aside0.mk (blk_below BK7.out hb)
        have BK8 := Aside0.mk (blk_below BK8.out hb)
        have HB := Aside0.mk (below_step HB.out hb)
        obtain ⟨Al, cl, rfl⟩ := Kd.R_slice hol
        have HL := Aside0.mk (Kd.R_reads' hol).2.2
        clear hol hb
        refine hK.out _ _ ((blk_cell BK6.out 1).trans rfl) (fun hHeld => ?_)
        clear hK K hHeld
        have hHeld := (blk_cell BK6.out 1).trans (rfl : _ = some (Value.int .i64 x.f1))
        refine norm_ (a' := ?_) ?_ ?_
        rotate_left
        · show Act.put _ (some 28) _ = _
          simp only [Act.put, List.setIfInBounds_toArray, List.set_cons_zero, List.set_cons_succ, i64_w, i32_w]
          rfl
        refine one_ (i := 5) (N := some 29) #[true, true, true, true, true, true, true, true, false, false, false, false] rfl rfl (by kernel_rfl) (by decide) (fun K hK => ?_)
        refine Kd.R_append_rows_step (Kd.int .u8) (w0 := w) w.heap.size (by rfl) (.tmp 24) (.tmp 28) 24 5 (.int .u8 0) 1 rfl Tryd.underlying24 info5 rfl (by decide) (by omega) u4 (rtEnc (l0.take i)) [x.f1 % 256] _ _ _ (fun _ => True) (fun _ => False) rfl rfl HO.out HL.out (fun _ _ h => h) (fun _ h => h.elim) (fun _ _ => trivial) HB.out (below_size HB.out) (by have := hbd.out; simp; omega) ?_
        intro v29 wa ho hb hg hat
        have BK6 := Aside0.mk (blk_grown BK6.out hg (Kd.R_ne HO.out BK6.out (by decide)))
        have BK7 := Aside0.mk (blk_grown BK7.out hg (Kd.R_ne HO.out BK7.out (by decide)))
        have BK8 := Aside0.mk (blk_grown BK8.out hg (Kd.R_ne HO.out BK8.out (by decide)))
        have HO := Aside0.mk ho
        have HB := Aside0.mk hb
        clear ho hb hg hat
        clear HL
        refine hK.out _ _ ((blk_cell BK6.out 1).trans rfl) (fun hHeld => ?_)
        clear hK K hHeld
        have hHeld := (blk_cell BK6.out 1).trans (rfl : _ = some (Value.int .i64 x.f1))
        refine norm_ (a' := ?_) ?_ ?_
        rotate_left
        · show Act.put _ (some 29) _ = _
          simp only [Act.put, List.setIfInBounds_toArray, List.set_cons_zero, List.set_cons_succ, i64_w, i32_w]
          rfl
        refine one_ (i := 8) (N := some 32) #[true, true, true, true, true, true, true, true, true, false, false, false] rfl rfl (by kernel_rfl) (by decide) (fun K hK => ?_)
        refine goes_ Tryd.func14 (by kernel_rfl) rfl #[.int .i64 x.f1] (by rfl) rfl rfl (by (try simp only [List.map_toArray, List.map_cons, List.map_nil]); rfl) ?_
        refine (route_octets.calls x.f1 (rtOct x.f1 : Int) _ hoct.out).mono ?_
        rintro e wo ⟨rfl, hd⟩
        have hb : Below _ _ wo := hd.below
        refine ⟨_, rfl, ?_⟩
        have HO := Aside0.mk (Kd.R_below HO.out hb)
        have BK6 := Aside0.mk (blk_below BK6.out hb)
        have BK7 := Aside0.mk (blk_below BK7.out hb)
        have BK8 := Aside0.mk (blk_below BK8.out hb)
        have HB := Aside0.mk (below_step HB.out hb)
        clear hb hd
        refine hK.out _ _ ((blk_cell BK6.out 1).trans rfl) (fun hHeld => ?_)
        clear hK K hHeld
        have hHeld := (blk_cell BK6.out 1).trans (rfl : _ = some (Value.int .i64 x.f1))
        refine norm_ (a' := ?_) ?_ ?_
        rotate_left
        · show Act.put _ (some 32) _ = _
          simp only [Act.put, List.setIfInBounds_toArray, List.set_cons_zero, List.set_cons_succ, i64_w, i32_w]
          rfl
        refine pure_ (i := 9) (N := some 33) (v := .slice (some ⟨g7, 0, none⟩) (rtOct x.f1) 4) (a' := ?_) #[true, true, true, true, true, true, true, true, true, true, false, false] rfl rfl (by kernel_rfl) (fun _ _ _ h => h) (Or.inl ⟨by rfl, ?_⟩) ?_ ?_
        · intro w'
          go_simp
          rw [slice_net g7 _ hln.out w']
          rfl
        rotate_left
        · simp only [Act.put, List.setIfInBounds_toArray, List.set_cons_zero, List.set_cons_succ, i64_w, i32_w]
          rfl
        refine one_ (i := 10) (N := some 34) #[true, true, true, true, true, true, true, true, true, true, true, false] rfl rfl (by kernel_rfl) (by decide) (fun K hK => ?_)
        refine Kd.R_append_rows_step (Kd.int .u8) (w0 := w) w.heap.size (by rfl) (.tmp 29) (.tmp 33) 24 5 (.int .u8 0) 1 rfl Tryd.underlying24 info5 rfl (by decide) (by omega) v29 (rtEnc (l0.take i) ++ [x.f1 % 256]) ((rt4 x.f0).take (rtOct x.f1)) _ _ _ (fun _ => True) (fun _ => False) rfl rfl HO.out (arr4t BK7.out _ hln.out) (fun _ _ h => h) (fun _ h => h.elim) (fun _ _ => trivial) HB.out (below_size HB.out) (by have := hbd.out; have := hln.out; simp only [List.length_append, List.length_singleton]; omega) ?_
        intro v34 wa ho hb hg hat
        have BK6 := Aside0.mk (blk_grown BK6.out hg (Kd.R_ne HO.out BK6.out (by decide)))
        have BK7 := Aside0.mk (blk_grown BK7.out hg (Kd.R_ne HO.out BK7.out (by decide)))
        have BK8 := Aside0.mk (blk_grown BK8.out hg (Kd.R_ne HO.out BK8.out (by decide)))
        have HO := Aside0.mk ho
        have HB := Aside0.mk hb
        clear ho hb hg hat
        refine hK.out _ _ ((blk_cell BK6.out 1).trans rfl) (fun hHeld => ?_)
        clear hK K hHeld
        have hHeld := (blk_cell BK6.out 1).trans (rfl : _ = some (Value.int .i64 x.f1))
        refine norm_ (a' := ?_) ?_ ?_
        rotate_left
        · show Act.put _ (some 34) _ = _
          simp only [Act.put, List.setIfInBounds_toArray, List.set_cons_zero, List.set_cons_succ, i64_w, i32_w]
          rfl
        refine pure_ (i := 11) (N := some 4) (v := ?_) (a' := ?_) #[true, true, true, true, true, true, true, true, true, true, true, true] rfl rfl (by kernel_rfl) (fun _ _ _ h => h) (Or.inl ⟨by rfl, ?_⟩) ?_ ?_
        rotate_left
        · intro w'
          go_simp
          with_reducible rfl
        rotate_left
        · simp only [Act.put, List.setIfInBounds_toArray, List.set_cons_zero, List.set_cons_succ, i64_w, i32_w]
          rfl
        refine done_ (by kernel_rfl) ?_
        clear hHeld
        go_wp2_with (first
          | ((with_reducible refine gate_builtin (b := .append) (xs := #[.tmp 35, .tmp 36]) rfl ?_); at_builtin; refine Kd.R_append_rows (Kd.int .u8) (w0 := w) w.heap.size rfl (.tmp 35) (.tmp 36) 24 5 (.int .u8 0) 1 rfl Tryd.underlying24 info5 rfl (by decide) (by omega) v34 (rtEnc (l0.take i) ++ [x.f1 % 256] ++ (rt4 x.f0).take (rtOct x.f1)) (rt4 x.f2) _ _ _ (fun _ => True) (fun _ => False) rfl rfl HO.out (arr4 BK8.out) (fun _ _ h => h) (fun _ h => h.elim) (fun _ _ => trivial) HB.out (below_size HB.out) (by have := hbd.out; have := hln.out; simp only [List.length_append, List.length_singleton, List.length_take]; omega) ?_; intro v37 wz ho hb hg hat; clear HO HB BK6 BK7 BK8 hg hat; have HO := Aside0.mk ho; have HB := Aside0.mk hb; clear ho hb)
          | fail)
        go_roundg k2
        case measure => omega
        case rel =>
          refine ⟨i + 1, ?_, ⟨by omega, by have := hi.out; omega⟩, ⟨?_⟩, ⟨?_⟩, HB⟩
          · have := HBIG.out
            have e : wrap64 ((i : Int) + 1) = ((i + 1 : Nat) : Int) := by unfold wrap64; omega
            first | rw [e] | (simp only [i64_w]; rw [e])
          · intro y hy
            rw [List.take_succ_eq_append_getElem c, List.mem_append, List.mem_singleton] at hy
            rcases hy with hy | rfl
            · exact HOK.out y hy
            · rw [← HX.out]; exact r
          · rw [rtEnc_succ l0 c, ← HX.out]
            exact HO.out
      · have hR := Aside0.mk (show route_Right.f x.f0 x.f1 x.f2 = some false by rw [right_total, Bool.eq_false_iff.mpr r])
        go_wp2_with (first
          | (go_at_call 12; (with_reducible refine (route_Right.calls x.f0 x.f1 x.f2 false _ hR.out).mono ?_); rintro e w2 ⟨rfl, hb⟩; have n1_ := Aside0.mk (below_step (below_alloc HB.out _) hb); clear hb HB; have HB := n1_; clear n1_)
          | fail)
        have h := H.out
        rw [if_neg (fun hall => r (by rw [HX.out]; exact hall _ (List.getElem_mem c)))] at h
        obtain ⟨rfl, rfl⟩ := Prod.mk.inj h
        go_ret2
        exact ⟨_, by first | rfl | (simp; done), Kd.R_nil _ _ _ _ _, by repeat (first | (with_reducible first | exact HB.out | apply below_alloc | apply pw_below_drewN | apply below_drew1) | exact HB.out)⟩
    · have cb : decide ((i : Int) < (l0.length : Int)) = false := decide_eq_false (by omega)
      have ei : i = l0.length := by have := hi.out; omega
      have ht : l0.take i = l0 := by rw [ei, List.take_length]
      rw [ht] at HO HOK
      have h := H.out
      rw [if_pos HOK.out] at h
      by_cases c2 : 255 < (rtEnc l0).length
      · rw [if_pos c2] at h
        obtain ⟨rfl, rfl⟩ := Prod.mk.inj h
        have cb0 : decide (255 < ((rtEnc l0).length : Int)) = true := decide_eq_true (by omega)
        have cb1 : decide (255 < (rtEnc l0).length) = true := decide_eq_true c2
        obtain ⟨Ao, co, eo⟩ := Kd.R_slice HO.out
        subst eo
        go_wp2
        go_ret2
        exact ⟨_, by first | rfl | (simp; done), Kd.R_nil _ _ _ _ _, by repeat (first | (with_reducible first | exact HB.out | apply below_alloc | apply pw_below_drewN | apply below_drew1) | exact HB.out)⟩
      · rw [if_neg c2] at h
        obtain ⟨rfl, rfl⟩ := Prod.mk.inj h
        have cb0 : decide (255 < ((rtEnc l0).length : Int)) = false := decide_eq_false (by omega)
        have cb1 : decide (255 < (rtEnc l0).length) = false := decide_eq_false c2
        obtain ⟨Ao, co, eo⟩ := Kd.R_slice HO.out
        subst eo
        go_wp2
        go_ret2
        exact ⟨_, by first | rfl | (simp; done), by (with_reducible repeat (first | apply Kd.R_alloc | apply Kd.R_drewN | apply Kd.R_drew)); exact HO.out, by repeat (first | (with_reducible first | exact HB.out | apply below_alloc | apply pw_below_drewN | apply below_drew1) | exact HB.out)⟩
end Go.Proofs.YtdpoknfidlekbaaDoor
end

section
-- written by a program of this session (wip/tools/gen.py) over the kit's print
namespace Go.Proofs.YtdpoknfidlekbaaDoor.Pr
open Go.RowKit Go.Proofs.YtdpoknfidlekbaaDoorW.PrintWords Go.Proofs.YtdpoknfidlekbaaDoorW.PrintLast Go.Proofs.YtdpoknfidlekbaaDoorW.PrintMore
attribute [local go_sem] max2_int min2_int max_two min_two max_three min_three max_four min_four   -- for this text's walks alone
set_option linter.unusedVariables false
set_option linter.unusedSimpArgs false

theorem eqA44 (d : Nat) (w : World) (x0 y0 : Int) (x1 y1 : Int) (x2 y2 : Int) :
    (Op.equalIn (d + 2) 44 (.agg #[.int .u32 x0, .int .i64 x1, .int .u32 x2]) (.agg #[.int .u32 y0, .int .i64 y1, .int .u32 y2])).run Tryd.prog w = .ok (x0 == y0 && (x1 == y1 && (x2 == y2))) w := by
  refine eqA_of Tryd.underlying44 (by kernel_rfl) ?_
  refine eqf_cons (by rfl) (by go_simp; rfl) (by go_simp; rfl) (by go_simp) ?_
  refine eqf_cons (by rfl) (by go_simp; rfl) (by go_simp; rfl) (by go_simp) ?_
  exact eqf_last (by rfl) (by go_simp; rfl) (by go_simp; rfl) (by go_simp)
end Go.Proofs.YtdpoknfidlekbaaDoor.Pr
end

section
-- written by a program of this session (wip/tools/gen.py) over the kit's print
namespace Go.Proofs.YtdpoknfidlekbaaDoor.Pr
open Go.RowKit Go.Proofs.YtdpoknfidlekbaaDoorW.PrintWords Go.Proofs.YtdpoknfidlekbaaDoorW.PrintLast Go.Proofs.YtdpoknfidlekbaaDoorW.PrintMore
attribute [local go_sem] max2_int min2_int max_two min_two max_three min_three max_four min_four   -- for this text's walks alone
set_option linter.unusedVariables false
set_option linter.unusedSimpArgs false

attribute [local go_sem high] eqA44
/-! ### lessorref25_Same: function 11 -/
def lessorref25_Same.l0 : Nat → List (S44) → List (S44) → Int → Option (Bool)
 | 0, _, _, _ => none
 | k + 1, x0, x1, x5 => if x5 < (x0.length : Int) then (if 0 ≤ x5 then (if x5 < (x1.length : Int) then (if (!(((rd_T44 x0 x5).f0) == ((rd_T44 x1 x5).f0)) || (!(((rd_T44 x0 x5).f1) == ((rd_T44 x1 x5).f1)) || (!(((rd_T44 x0 x5).f2) == ((rd_T44 x1 x5).f2))))) = true then (some false) else (lessorref25_Same.l0 k x0 x1 (wrap64 (x5 + 1)))) else (none)) else (none)) else (some true)
def lessorref25_Same.f (k : Nat) (l0 : List (S44)) (l1 : List (S44)) : Option (Bool) := if (l0.length : Int) = (l1.length : Int) then (lessorref25_Same.l0 k l0 l1 0) else (some false)
theorem lessorref25_Same.mono_l : ∀ k, (∀ y0 y1 y2, LeO (lessorref25_Same.l0 k y0 y1 y2) (lessorref25_Same.l0 (k + 1) y0 y1 y2))
 | 0 => fun _ _ _ r h => by simp [lessorref25_Same.l0] at h
 | k + 1 => by
  have ih0 := lessorref25_Same.mono_l k
  ·intro y0 y1 y2
   unfold lessorref25_Same.l0
   repeat' first
   | (with_reducible exact ih0 _ _ _)
   | (with_reducible exact LeO.refl _)
   | (with_reducible exact LeO.none _)
   | (with_reducible refine LeO.ite ?_ ?_)
   | (with_reducible refine LeO.bind ?_ (fun _ => ?_))
   | exact ih0 _ _ _
   | exact LeO.none _
   | refine LeO.ite ?_ ?_
   | refine LeO.bind ?_ (fun _ => ?_)
theorem lessorref25_Same.mono : ∀ a0 a1 k, LeO (lessorref25_Same.f k a0 a1) (lessorref25_Same.f (k + 1) a0 a1) := by
 intro a0 a1 k
 have ih0 := lessorref25_Same.mono_l k
 unfold lessorref25_Same.f
 repeat' first
   | (with_reducible exact ih0 _ _ _)
   | (with_reducible exact LeO.refl _)
   | (with_reducible exact LeO.none _)
   | (with_reducible refine LeO.ite ?_ ?_)
   | (with_reducible refine LeO.bind ?_ (fun _ => ?_))
   | exact ih0 _ _ _
   | exact LeO.none _
   | refine LeO.ite ?_ ?_
   | refine LeO.bind ?_ (fun _ => ?_)
set_option maxHeartbeats 8000000 in
set_option maxRecDepth 100000 in
theorem lessorref25_Same.calls (k : Nat) (A0 : Option Addr) (c0 : Nat) (l0 : List (S44)) (A1 : Option Addr) (c1 : Nat) (l1 : List (S44)) (r : Bool) (w : World) (hr0 : Kd.C k44 w A0 l0.length l0) (hc0 : l0.length ≤ c0) (hr1 : Kd.C k44 w A1 l1.length l1) (hc1 : l1.length ≤ c1) (h : lessorref25_Same.f k l0 l1 = some r) :
  Calls Tryd.prog 11 #[.slice A0 l0.length c0, .slice A1 l1.length c1] w fun e w' => e = .returned (.bool r) ∧ Drawn0 w w' := by
 have hu44 := Tryd.underlying44
 have HR0 := Aside0.mk hr0
 have HC0 := Aside0.mk hc0
 clear hr0 hc0
 have HR1 := Aside0.mk hr1
 have HC1 := Aside0.mk hc1
 clear hr1 hc1
 have H : (if (l0.length : Int) = (l1.length : Int) then (lessorref25_Same.l0 k l0 l1 0) else (some false)) = some r := h
 clear h
 by_cases c3 : (l0.length : Int) = (l1.length : Int)
 ·rw [if_pos c3] at H
  have c3b0 : ((l0.length : Int) == (l1.length : Int)) = true := beq_iff_eq.mpr c3
  have c3b1 : ((l0.length : Int) != (l1.length : Int)) = false := bne_eq_false_iff_eq.mpr c3
  have c3b2 : (l0.length == l1.length) = true := by first | simpa using c3 | (simp at c3 ⊢; omega)
  clear c3
  have H' := Aside0.mk H
  clear H
  go_enter Tryd.func11, Tryd.ntmps11
  go_wp2
  repeat (go_quiet (fail); try go_wp2)
  go_loopg [5] k (fun kq v5 w' => ∃ (x5_1 : Int), v5 = .int .i64 x5_1 ∧ Aside0 (lessorref25_Same.l0 kq l0 l1 x5_1 = some r) ∧ Aside0 (kq ≤ k) ∧ Drawn0 w w')
  case atStart => exact ⟨(0), (by first | rfl | (simp; done) | (simp [*]; done)), H', ⟨Nat.le_refl _⟩, by repeat (first | exact Drawn0.refl _ | apply Drawn0.step)⟩
  case round =>
   clear H'
   try clear c1
   try clear p2
   try clear c3
   try clear c3b0
   try clear c3b1
   try clear c3b2
   obtain ⟨x5_1, rfl, HA, HK1, ⟨m1, rfl⟩⟩ := hrel
   cases gk with
   | zero => exact absurd HA.out (by simp [lessorref25_Same.l0])
   | succ k1 =>
    have H := HA.out
    clear HA
    simp only [lessorref25_Same.l0] at H
    by_cases c4 : x5_1 < (l0.length : Int)
    ·rw [if_pos c4] at H
     have c4b0 : decide (x5_1 < (l0.length : Int)) = true := decide_eq_true c4
     clear c4
     by_cases c5 : 0 ≤ x5_1
     ·rw [if_pos c5] at H
      have c5b0 : decide (0 ≤ x5_1) = true := decide_eq_true c5
      clear c5
      by_cases c6 : x5_1 < (l1.length : Int)
      ·rw [if_pos c6] at H
       have c6b0 : decide (x5_1 < (l1.length : Int)) = true := decide_eq_true c6
       clear c6
       by_cases c7 : (!(((rd_T44 l0 x5_1).f0) == ((rd_T44 l1 x5_1).f0)) || (!(((rd_T44 l0 x5_1).f1) == ((rd_T44 l1 x5_1).f1)) || (!(((rd_T44 l0 x5_1).f2) == ((rd_T44 l1 x5_1).f2))))) = true
       ·rw [if_pos c7] at H
        have c7b0 : (!(((rd_T44 l0 x5_1).f0) == ((rd_T44 l1 x5_1).f0)) || (!(((rd_T44 l0 x5_1).f1) == ((rd_T44 l1 x5_1).f1)) || (!(((rd_T44 l0 x5_1).f2) == ((rd_T44 l1 x5_1).f2))))) = true := c7
        clear c7
        obtain rfl := Option.some.inj H
        have p139 : 0 ≤ (x5_1 : Int) := of_decide_eq_true (by first | (with_reducible assumption) | assumption)
        have q139 : x5_1 < (l0.length : Int) := of_decide_eq_true (by first | (with_reducible assumption) | assumption)
        obtain ⟨ad139, e139, hx139_0, hx139_1, hx139_2⟩ := at_T44 HR0.out x5_1 p139 q139
        cases e139
        replace p139 := eq_true p139
        replace q139 := eq_true q139
        have p140 : 0 ≤ (x5_1 : Int) := of_decide_eq_true (by first | (with_reducible assumption) | assumption)
        have q140 : x5_1 < (l1.length : Int) := of_decide_eq_true (by first | (with_reducible assumption) | assumption)
        obtain ⟨ad140, e140, hx140_0, hx140_1, hx140_2⟩ := at_T44 HR1.out x5_1 p140 q140
        cases e140
        replace p140 := eq_true p140
        replace q140 := eq_true q140
        go_wp2
        repeat (go_quiet (fail); try go_wp2)
        go_ret
        exact ⟨by first | rfl | (simp; done) | (simp [*]; done), by repeat (first | exact Drawn0.refl _ | apply Drawn0.step)⟩
       ·rw [if_neg c7] at H
        have c7b0 : (!(((rd_T44 l0 x5_1).f0) == ((rd_T44 l1 x5_1).f0)) || (!(((rd_T44 l0 x5_1).f1) == ((rd_T44 l1 x5_1).f1)) || (!(((rd_T44 l0 x5_1).f2) == ((rd_T44 l1 x5_1).f2))))) = false := by simpa using c7
        clear c7
        have H' := Aside0.mk H
        clear H
        have p139 : 0 ≤ (x5_1 : Int) := of_decide_eq_true (by first | (with_reducible assumption) | assumption)
        have q139 : x5_1 < (l0.length : Int) := of_decide_eq_true (by first | (with_reducible assumption) | assumption)
        obtain ⟨ad139, e139, hx139_0, hx139_1, hx139_2⟩ := at_T44 HR0.out x5_1 p139 q139
        cases e139
        replace p139 := eq_true p139
        replace q139 := eq_true q139
        have p140 : 0 ≤ (x5_1 : Int) := of_decide_eq_true (by first | (with_reducible assumption) | assumption)
        have q140 : x5_1 < (l1.length : Int) := of_decide_eq_true (by first | (with_reducible assumption) | assumption)
        obtain ⟨ad140, e140, hx140_0, hx140_1, hx140_2⟩ := at_T44 HR1.out x5_1 p140 q140
        cases e140
        replace p140 := eq_true p140
        replace q140 := eq_true q140
        go_wp2
        repeat (go_quiet (fail); try go_wp2)
        go_roundg k1
        case measure => have := HK1.out; omega
        case rel => exact ⟨(wrap64 (x5_1 + 1)), (by first | rfl | (simp; done) | (simp [*]; done)), H', ⟨by have := HK1.out; omega⟩, by repeat (first | exact Drawn0.refl _ | apply Drawn0.step)⟩
      ·rw [if_neg c6] at H
       exact absurd H (by simp)
     ·rw [if_neg c5] at H
      exact absurd H (by simp)
    ·rw [if_neg c4] at H
     have c4b0 : decide (x5_1 < (l0.length : Int)) = false := decide_eq_false c4
     clear c4
     obtain rfl := Option.some.inj H
     go_wp2
     repeat (go_quiet (fail); try go_wp2)
     go_ret
     exact ⟨by first | rfl | (simp; done) | (simp [*]; done), by repeat (first | exact Drawn0.refl _ | apply Drawn0.step)⟩
 ·rw [if_neg c3] at H
  have c3b0 : ((l0.length : Int) == (l1.length : Int)) = false := beq_eq_false_iff_ne.mpr c3
  have c3b1 : ((l0.length : Int) != (l1.length : Int)) = true := bne_iff_ne.mpr c3
  have c3b2 : (l0.length == l1.length) = false := by first | simpa using c3 | (simp at c3 ⊢; omega)
  obtain rfl := Option.some.inj H
  go_enter Tryd.func11, Tryd.ntmps11
  go_wp2
  repeat (go_quiet (fail); try go_wp2)
  go_ret
  exact ⟨by first | rfl | (simp; done) | (simp [*]; done), by repeat (first | exact Drawn0.refl _ | apply Drawn0.step)⟩

end Go.Proofs.YtdpoknfidlekbaaDoor.Pr
end

section
namespace Go.Proofs.YtdpoknfidlekbaaDoor.PR
open Go.RowKit Go.Proofs.YtdpoknfidlekbaaDoor Go.Proofs.YtdpoknfidlekbaaDoor.Pr Go.Proofs.YtdpoknfidlekbaaDoorW.PrintWords Go.Proofs.YtdpoknfidlekbaaDoorW.PrintLast Go.Proofs.YtdpoknfidlekbaaDoorW.PrintMore
set_option linter.unusedVariables false
set_option linter.unusedSimpArgs false

theorem rtRight_eq (x : Rt) (h : okU x.f0) : rtRight x = decide (okR x) := by
  unfold rtRight
  rw [right_eq x h]
  rfl
theorem same_loop (l : List Rt) : ∀ (d i k : Nat), l.length ≤ i + d → i ≤ l.length → l.length ≤ 1000000 → d < k → lessorref25_Same.l0 k l l (i : Int) = some true := by
  intro d
  induction d with
  | zero =>
    intro i k h1 h2 h3 hk
    obtain ⟨k, rfl⟩ : ∃ m, k = m + 1 := ⟨k - 1, by omega⟩
    simp only [lessorref25_Same.l0]
    rw [if_neg (by omega)]
  | succ d ih =>
    intro i k h1 h2 h3 hk
    obtain ⟨k, rfl⟩ : ∃ m, k = m + 1 := ⟨k - 1, by omega⟩
    simp only [lessorref25_Same.l0]
    by_cases h : i < l.length
    · rw [if_pos (by omega), if_pos (by omega), if_pos (by omega), if_neg (by simp), wrapR (by omega) (by omega)]
      exact ih (i + 1) k (by omega) (by omega) h3 (by omega)
    · rw [if_neg (by omega)]
theorem same_refl (l : List Rt) (hl : l.length ≤ 1000000) (k : Nat) (hk : l.length < k) : lessorref25_Same.f k l l = some true := by
  unfold lessorref25_Same.f
  rw [if_pos rfl]
  exact same_loop l l.length 0 k (by omega) (by omega) hl (by omega)
end Go.Proofs.YtdpoknfidlekbaaDoor.PR
end

section
namespace Go.Proofs.YtdpoknfidlekbaaDoor
open Go.RowKit
set_option linter.unusedVariables false
set_option linter.unusedSimpArgs false

variable {P : Program}

/-- The loop's record. -/
def rfRec (fn : FuncId) (tmps : Array Value) (ps : Array Tmp) (assign body : Code) (dk : Nat) (st : LoopState) (pe : Option Code) : Loop :=
  { state := st, pending := pe, fn, tmps, params := ps, assign, body, defers := dk }

/-- What stands in the heap where the iterator begins. -/
def rfStart (w : World) (r : Loop) : World := (w.alloc (.deferred (some []))).alloc (.loop r)

theorem rfStart_size (w : World) (r : Loop) : (rfStart w r).heap.size = w.heap.size + 2 := by simp [rfStart]
theorem rfStart_below (w : World) (r : Loop) : Below w.heap.size w (rfStart w r) := ((Below.refl _ w).alloc (Nat.le_refl _) _).alloc (by simp) _
theorem rfStart_loop (w : World) (r : Loop) : (rfStart w r).heap[w.heap.size + 1]? = some (.loop r) := by
  have := World.alloc_heap_new (w.alloc (.deferred (some []))) (.loop r)
  rwa [World.size_alloc] at this
theorem rfStart_def (w : World) (r : Loop) : (rfStart w r).heap[w.heap.size]? = some (.deferred (some [])) :=
  (Below.heap_alloc _ _ _ (by simp)).trans (World.alloc_heap_new w _)

theorem rf_wide {n : Nat} {g : Operand} {ps : Array Tmp} {assign body : Code} {Q : Exit → Act → World → Prop} {a : Act} {w : World}
    {gf : Nat} {lb : Array Value} (hg : a.eval g = .func (.func gf) #[] lb) (eg : ∀ args w, (callFunc gf args).run P w = .ok (.enter gf args) w)
    (h : ∀ (fn : FuncId) (r : LoopState → Option Code → Loop), r = rfRec fn a.tmps ps assign body w.heap.size → Calls P gf (#[.func (.yield (w.heap.size + 1)) #[] #[]] ++ lb) (rfStart w (r .ready none)) fun e W =>
        (∃ v, e = .returned v) ∧
        ((W.heap[w.heap.size + 1]? = some (.loop (r .ready none)) ∧
            Q .normal { a with defers := { target := .collected w.heap.size, args := #[] } :: a.defers } (W.putObj (w.heap.size + 1) (.loop (r .exhausted none)))) ∨
         ∃ c, W.heap[w.heap.size + 1]? = some (.loop (r .done (some c))) ∧
            c.wpIn Fence.wide n P Q { a with defers := { target := .collected w.heap.size, args := #[] } :: a.defers } (W.putObj (w.heap.size + 1) (.loop (r .exhausted (some c)))))) :
    (Code.rangeFunc g ps assign body).wpIn Fence.wide n P Q a w := by
  refine wpIn_rangeFunc ?_
  intro fn _
  refine ⟨w.heap.size + 1, [{ target := .collected w.heap.size, args := #[] }], rfStart w (rfRec fn a.tmps ps assign body w.heap.size .ready none), { target := .fn (.func gf) lb, args := #[.func (.yield (w.heap.size + 1)) #[] #[]] },
    rfStart w (rfRec fn a.tmps ps assign body w.heap.size .ready none), gf, #[.func (.yield (w.heap.size + 1)) #[] #[]] ++ lb, rfStart w (rfRec fn a.tmps ps assign body w.heap.size .ready none), ?_, ?_, ?_, ?_, ?_, ?_⟩
  · exact run_enterLoop_outer _ _ _ _ _
  · simp only [resolve, hg]
    simp [go_sem]
  · intro _ _; trivial
  · simp [invoke, go_sem, eg]
  · intro h0; simp [Fence.wide] at h0
  · refine callsIn_wide.2 ((h fn _ rfl).mono ?_)
    rintro e W ⟨⟨v, rfl⟩, ⟨hl, hq⟩ | ⟨c, hl, hq⟩⟩
    · exact ⟨none, _, by have := run_endLoop (P := P) hl (by simp [rfRec]); simpa [rfRec] using this, hq⟩
    · exact ⟨some c, _, by have := run_endLoop (P := P) hl (by simp [rfRec]); simpa [rfRec] using this, hq⟩

/-- How a round may be left: where it goes on, yield answers true; where it leaves by a jump, false. -/
def rfPost (r : LoopState → Option Code → Loop) (l : Nat) (R : Bool → Option Code → World → Prop) : Exit → Act → World → Prop
  | .normal, _, W => W.heap[l]? = some (.loop (r .busy none)) ∧ R true none (W.putObj l (.loop (r .ready none)))
  | .ret, _, W => W.heap[l]? = some (.loop (r .busy none)) ∧ R false (some .ret) (W.putObj l (.loop (r .done (some .ret))))
  | .exit id, _, W => W.heap[l]? = some (.loop (r .busy none)) ∧ R false (some (.exit id)) (W.putObj l (.loop (r .done (some (.exit id)))))
  | _, _, _ => False

theorem rf_round {n l : Nat} {W : World} {args : Array Value} (R : Bool → Option Code → World → Prop) {fn : FuncId} {tmps : Array Value} {ps : Array Tmp} {assign body : Code} {dk : Nat} {r : LoopState → Option Code → Loop}
    (hr : r = rfRec fn tmps ps assign body dk) (hl : W.heap[l]? = some (.loop (r .ready none))) (hs : args.size = ps.size) (a₁ : Act)
    (hassign : ∀ K : Act → World → Prop, K a₁ W → assign.wpIn (Fence.wide.inRound l) n P (Exit.then K (fun _ _ _ => False)) { tmps := (ps.zip args).foldl (fun t (p, v) => t.setIfInBounds p v) tmps, defers := [] } W)
    (hbody : body.wpIn (Fence.wide.inRound l) n P (rfPost r l R) a₁ (W.putObj l (.loop (r .busy none)))) :
    YieldAt Fence.wide n P l args W fun e W' => ∃ b jump, e = .returned (.bool b) ∧ R b jump W' ∧ (b = true → jump = none) := by
  subst hr
  have hy := run_yield (P := P) (args := args) hl (by simpa [rfRec] using hs)
  refine ⟨fn, _, assign, body, hy, roundIn_of_wpIn trivial (hassign _ ⟨_, run_beginRound hl rfl, ?_⟩)⟩
  refine wpIn_mono hbody ?_
  intro e a W3 hp
  cases e with
  | normal =>
    obtain ⟨hb, hr⟩ := hp
    exact ⟨_, _, run_endRound (P := P) none hb, true, none, rfl, hr, fun _ => rfl⟩
  | ret =>
    obtain ⟨hb, hr⟩ := hp
    exact ⟨_, _, run_endRound (P := P) (some .ret) hb, false, some .ret, rfl, hr, fun h => by cases h⟩
  | exit id =>
    obtain ⟨hb, hr⟩ := hp
    exact ⟨_, _, run_endRound (P := P) (some (.exit id)) hb, false, some (.exit id), rfl, hr, fun h => by cases h⟩
  | goto t => exact hp.elim
  | panic ch => exact hp.elim
  | outgrown => exact hp.elim

/-- One operation of a round that is no 'defer', walked by the laws of the plain layer. -/
theorem wpListIn_of_one {n l : Nat} {ops : Array Oper} {Q : Exit → Act → World → Prop} {o : Oper} {rest : List Oper} {a : Act} {w : World}
    (hnd : ∀ c, o.op ≠ .defer c) (hno : ∀ a w, ¬ Q .outgrown a w)
    (h : wpList P ops (Exit.then (fun a w => wpListIn (Fence.wide.inRound l) n P ops Q rest a w) Q) [o] a w) :
    wpListIn (Fence.wide.inRound l) n P ops Q (o :: rest) a w := by
  have hlo : ¬ LetsOut (Exit.then (fun a w => wpListIn (Fence.wide.inRound l) n P ops Q rest a w) Q) := fun ⟨a, w, h⟩ => hno a w h
  simp only [wpList] at h
  simp only [wpListIn]
  by_cases hw : Region.wanted o (yielded ops a.tmps) = true
  · rw [if_pos hw] at h ⊢
    rcases h with h | ⟨_, h⟩
    · refine ⟨fun _ _ => trivial, ?_⟩
      have hs : o.semAt (some l) a.eval = execOp a.eval o := Oper.semAt_some l a.eval o hnd
      show o.uponIn _ _ _ _ _ _ ((o.semAt (some l) a.eval).run P w)
      rw [hs]
      unfold Oper.wp at h
      cases hr : (execOp a.eval o).run P w with
      | halt hh w' =>
        rw [hr] at h
        cases hh <;> first | exact h | exact h.elim
      | ok nx w' =>
        rw [hr] at h
        cases nx with
        | value v => exact h
        | skip => exact h
        | defer d => exact h
        | enter f args =>
          refine ⟨fun hd => by simp [Fence.wide, Fence.inRound] at hd, CallsIn.inRound l (callsIn_wide.2 (Calls.mono h ?_))⟩
          intro e w2 he
          cases e with
          | returned v => exact he
          | panicked c => exact he
          | outgrown => exact (hlo he).elim
        | row r args =>
          refine ⟨fun hd => by simp [Fence.wide, Fence.inRound] at hd, fun c cs _ => ?_⟩
          obtain ⟨v, w2, hq, hst⟩ := h c cs
          exact ⟨v, w2, hq, stepsIn_wide.2 hst⟩
        | _ => exact h.elim
    · exact (hlo h).elim
  · rw [if_neg hw] at h ⊢
    exact ⟨fun _ _ => trivial, h⟩

theorem wpList_back {n l : Nat} {ops : Array Oper} {Q : Exit → Act → World → Prop} {rest : List Oper} {a : Act} {w : World} (h : wpListIn (Fence.wide.inRound l) n P ops Q rest a w) :
    wpList P ops (Exit.then (fun a w => wpListIn (Fence.wide.inRound l) n P ops Q rest a w) Q) [] a w := h

end Go.Proofs.YtdpoknfidlekbaaDoor
end

section
namespace Go.Proofs.YtdpoknfidlekbaaDoor
open Go.RowKit Go.Proofs.YtdpoknfidlekbaaDoorW.PrintWords Go.Proofs.YtdpoknfidlekbaaDoorW.PrintLast Go.Proofs.YtdpoknfidlekbaaDoorW.PrintMore
set_option linter.unusedVariables false
set_option linter.unusedSimpArgs false

theorem S_put {α : Type} {d : Kd α} {e : Nat} {w : World} {base : Nat} {ok : Nat → Prop} {v : Value} {xs : List α} (h : Kd.S d e w base ok v xs) {l : Nat} {o : Obj} (o' : Obj) (hl : w.heap[l]? = some o) (ho : o.isCells = false) : Kd.S d e (w.putObj l o') base ok v xs :=
  Kd.S_mono (Kd.S_move (Kd.S_bound h) (fun k hk => World.putObj_heap_other (by
    rintro rfl
    obtain ⟨_, _, _, q, _, cells, hc⟩ := hk
    rw [hl] at hc; cases hc; cases ho))) (fun _ hk => hk.1)
theorem R_put {α : Type} {d : Kd α} {e : Nat} {w : World} {base : Nat} {ok : Nat → Prop} {v : Value} {xs : List α} (h : d.R e w base ok v xs) {l : Nat} {o : Obj} (o' : Obj) (hl : w.heap[l]? = some o) (ho : o.isCells = false) : d.R e (w.putObj l o') base ok v xs :=
  Kd.R_mono (Kd.R_move (Kd.R_bound h) (fun k hk => World.putObj_heap_other (by
    rintro rfl
    obtain ⟨_, _, _, q, _, cells, hc⟩ := hk
    rw [hl] at hc; cases hc; cases ho))) (fun _ hk => hk.1)
theorem boxed_put {W : World} {B : Nat} {t : TypeId} {v : Value} (h : Boxed W B t v) {l : Nat} {o : Obj} (o' : Obj) (hl : W.heap[l]? = some o) (ho : o.isCells = false) : Boxed (W.putObj l o') B t v :=
  (World.putObj_heap_other (by rintro rfl; rw [show W.heap[B]? = _ from h] at hl; cases hl; cases ho)).trans h
theorem boxed_below {W W' : World} {B : Nat} {t : TypeId} {v : Value} (h : Boxed W B t v) (hb : Below W.heap.size W W') : Boxed W' B t v := (hb.block B h.lt).trans h
theorem below_put {B : Nat} {w W : World} (h : Below B w W) {l : Nat} (o' : Obj) (hl : B ≤ l) : Below B w (W.putObj l o') :=
  h.trans ⟨rfl, rfl, rfl, by simp, fun k hk => World.putObj_heap_other (by omega)⟩
theorem put_other {W : World} {l k : Nat} (o' : Obj) (hne : k ≠ l) {o : Obj} (h : W.heap[k]? = some o) : (W.putObj l o').heap[k]? = some o := (World.putObj_heap_other hne).trans h
theorem put_same {W : World} {l : Nat} (o' : Obj) {o : Obj} (h : W.heap[l]? = some o) : (W.putObj l o').heap[l]? = some o' := World.putObj_heap_same (Array.getElem?_eq_some_iff.1 h).1
theorem lt_of_heap {W : World} {k : Nat} {o : Obj} (h : W.heap[k]? = some o) : k < W.heap.size := (Array.getElem?_eq_some_iff.1 h).1
theorem below_heap {W W' : World} (hb : Below W.heap.size W W') {k : Nat} {o : Obj} (h : W.heap[k]? = some o) : W'.heap[k]? = some o := (hb.block k (lt_of_heap h)).trans h
theorem yieldAt_mono {F : Fence} {n : Nat} {P : Program} {l : Nat} {args : Array Value} {W : World} {R R' : Ending → World → Prop} (h : YieldAt F n P l args W R) (hr : ∀ e w', R e w' → R' e w') : YieldAt F n P l args W R' := by
  obtain ⟨fn, tmps, assign, body, hy, hR⟩ := h
  exact ⟨fn, tmps, assign, body, hy, hR.mono hr⟩

theorem grown_heap {α : Type} {d : Kd α} {e : Nat} {w w1 : World} {base : Nat} {ok : Nat → Prop} {v : Value} {xs : List α} (h : Kd.S d e w base ok v xs) (hg : w.grownBy w1 v.ownBlock) {k : Nat} {o : Obj} (hk : w.heap[k]? = some o) (ho : o.isCells = false) : w1.heap[k]? = some o := by
  refine (hg.block k (lt_of_heap hk) ?_).trans hk
  intro e
  obtain ⟨cells, hc⟩ := Kd.S_typed h k e.symm
  rw [hk] at hc; cases hc; cases ho
theorem boxed_set_other {W : World} {B B' : Nat} {t : TypeId} {v : Value} (u : Value) (h : Boxed W B t v) (hne : B ≠ B') : Boxed (W.setCell ⟨B', 0, none⟩ u) B t v := (Below.heap_setCell _ _ _ _ hne).trans h
theorem set_heap {W : World} {B k : Nat} {t : TypeId} {v u : Value} (h : Boxed W B t v) {o : Obj} (hk : W.heap[k]? = some o) (ho : o.isCells = false) : (W.setCell ⟨B, 0, none⟩ u).heap[k]? = some o :=
  (Below.heap_setCell _ _ _ _ (by rintro rfl; rw [show W.heap[k]? = _ from h] at hk; cases hk; cases ho)).trans hk

end Go.Proofs.YtdpoknfidlekbaaDoor
end

section
namespace Go.Proofs.YtdpoknfidlekbaaDoor
open Go.RowKit Go.Proofs.YtdpoknfidlekbaaDoor.Pr Go.Proofs.YtdpoknfidlekbaaDoorW.PrintWords Go.Proofs.YtdpoknfidlekbaaDoorW.PrintLast Go.Proofs.YtdpoknfidlekbaaDoorW.PrintMore
set_option linter.unusedVariables false
set_option linter.unusedSimpArgs false

def ofR (l : List Int) : Int := ((l.getD 0 0 * 256 + l.getD 1 0) * 256 + l.getD 2 0) * 256 + l.getD 3 0
/-- The i-th of an array value of four bytes. -/
theorem idx4b (a b c d : Int) (i : Nat) (hi : i < 4) (W : World) : (Instr.index 46 (.agg #[.int .u8 a, .int .u8 b, .int .u8 c, .int .u8 d]) (.int .i64 (i : Int))).run Tryd.prog W = .ok (.int .u8 (([a, b, c, d] : List Int).getD i 0)) W := by
  have hu : Tryd.prog.underlying 46 = some (.array 4 5) := by kernel_rfl
  have hs : (Tryd.prog.info? 5).map (fun i => (i.size, i.zero)) = some (1, some (.int .u8 0)) := by kernel_rfl
  obtain ⟨i0, h0, h1⟩ := Option.map_eq_some_iff.1 hs
  simp only [Prod.mk.injEq] at h1
  obtain rfl | rfl | rfl | rfl : i = 0 ∨ i = 1 ∨ i = 2 ∨ i = 3 := by omega
  all_goals simp [Instr.index, asIntOf, run_underlying hu, sizeOf, part, typeInfo, h0, h1.1, h1.2]
theorem nat_or8 (a c : Nat) (hc : c < 256) : (a * 256) ||| c = a * 256 + c := by
  have : a * 256 = a <<< 8 := by rw [Nat.shiftLeft_eq]
  rw [this, Nat.shiftLeft_add_eq_or_of_lt (by omega)]
theorem of_step (a c : Int) (ha : 0 ≤ a ∧ a < 16777216) (hc : 0 ≤ c ∧ c ≤ 255) : bits .or .u32 (a * 256 % 4294967296) (c % 4294967296) = a * 256 + c := by
  obtain ⟨a0, a1⟩ := ha
  obtain ⟨c0, c1⟩ := hc
  obtain ⟨n, rfl⟩ := Int.eq_ofNat_of_zero_le a0
  obtain ⟨m, rfl⟩ := Int.eq_ofNat_of_zero_le c0
  have e1 : (n : Int) * 256 % 4294967296 = ((n * 256 : Nat) : Int) := by omega
  have e2 : (m : Int) % 4294967296 = m := by omega
  rw [e1, e2, (bits_nat .u32 32 (by decide) (fun n h0 h1 => by rw [IntKind.wrap_u32]; omega) (n * 256) m (by omega) (by omega)).2, nat_or8 n m (by omega)]
  omega

def pOf (b0 b1 b2 b3 : Int) : Nat → Int
  | 0 => 0
  | 1 => b0
  | 2 => b0 * 256 + b1
  | 3 => (b0 * 256 + b1) * 256 + b2
  | _ => ((b0 * 256 + b1) * 256 + b2) * 256 + b3
set_option maxHeartbeats 1000000 in
theorem rof_calls (b0 b1 b2 b3 : Int) (w : World) (h0 : 0 ≤ b0 ∧ b0 ≤ 255) (h1 : 0 ≤ b1 ∧ b1 ≤ 255) (h2 : 0 ≤ b2 ∧ b2 ≤ 255) (h3 : 0 ≤ b3 ∧ b3 ≤ 255) :
    Calls Tryd.prog 41 #[.agg #[.int .u8 b0, .int .u8 b1, .int .u8 b2, .int .u8 b3]] w fun e w' => e = .returned (.int .u32 (ofR [b0, b1, b2, b3])) ∧ Below w.heap.size w w' := by
  have H0 := Lib.hid h0
  have H1 := Lib.hid h1
  have H2 := Lib.hid h2
  have H3 := Lib.hid h3
  clear h0 h1 h2 h3
  have HB := Lib.hid (below_alloc (Below.refl w.heap.size w) (.cells #[.int .u8 b0, .int .u8 b1, .int .u8 b2, .int .u8 b3] 46))
  go_enter Tryd.func41, Tryd.ntmps41
  go_wp2
  go_loopg [3, 5, 7] 4 (fun kq v3 v5 v7 wr => ∃ (i : Nat), v7 = .int .i64 i ∧ Hid (i ≤ 4 ∧ 4 ≤ kq + i) ∧ Hid (v3 = .int .u32 (pOf b0 b1 b2 b3 i)) ∧ Hid (wr = w.alloc (.cells #[.int .u8 b0, .int .u8 b1, .int .u8 b2, .int .u8 b3] 46)))
  case atStart => exact ⟨0, rfl, Lib.hid (by omega), rfl, rfl⟩
  case round =>
    obtain ⟨i, rfl, HI, H3v, HW⟩ := hrel
    obtain rfl := HW.out
    obtain rfl := H3v.out
    have hi4 : i = 0 ∨ i = 1 ∨ i = 2 ∨ i = 3 ∨ i = 4 := by have := HI.out; omega
    have P1 : Hid (0 ≤ b0 ∧ b0 < 256) := Lib.hid (by have := H0.out; omega)
    rcases hi4 with rfl | rfl | rfl | rfl | rfl
    · have hix : ∀ W : World, (Instr.index 46 (.agg #[.int .u8 b0, .int .u8 b1, .int .u8 b2, .int .u8 b3]) (.int .i64 0)).run Tryd.prog W = .ok (.int .u8 b0) W := idx4b b0 b1 b2 b3 0 (by decide)
      have hst := (of_step (pOf b0 b1 b2 b3 0) b0 (by have := H0.out; have := H1.out; have := H2.out; have := H3.out; simp only [pOf]; omega) H0.out)
      have hpn : pOf b0 b1 b2 b3 0 * 256 + b0 = pOf b0 b1 b2 b3 1 := by first | (simp only [pOf]; done) | (simp only [pOf]; omega)
      rw [hpn] at hst
      obtain ⟨pa, hpa⟩ : ∃ p, pOf b0 b1 b2 b3 0 = p := ⟨_, rfl⟩
      obtain ⟨pb, hpb⟩ : ∃ p, pOf b0 b1 b2 b3 1 = p := ⟨_, rfl⟩
      have HPB := Lib.hid hpb
      simp only [hpa, hpb] at hst ⊢
      clear hpa hpn hpb
      go_wp2
      have hkk := HI.out
      go_roundg (gk - 1)
      case measure => omega
      case rel => exact ⟨1, rfl, Lib.hid (by omega), Lib.hid (by rw [HPB.out]), rfl⟩
    · have hix : ∀ W : World, (Instr.index 46 (.agg #[.int .u8 b0, .int .u8 b1, .int .u8 b2, .int .u8 b3]) (.int .i64 1)).run Tryd.prog W = .ok (.int .u8 b1) W := idx4b b0 b1 b2 b3 1 (by decide)
      have hst := (of_step (pOf b0 b1 b2 b3 1) b1 (by have := H0.out; have := H1.out; have := H2.out; have := H3.out; simp only [pOf]; omega) H1.out)
      have hpn : pOf b0 b1 b2 b3 1 * 256 + b1 = pOf b0 b1 b2 b3 2 := by first | (simp only [pOf]; done) | (simp only [pOf]; omega)
      rw [hpn] at hst
      obtain ⟨pa, hpa⟩ : ∃ p, pOf b0 b1 b2 b3 1 = p := ⟨_, rfl⟩
      obtain ⟨pb, hpb⟩ : ∃ p, pOf b0 b1 b2 b3 2 = p := ⟨_, rfl⟩
      have HPB := Lib.hid hpb
      simp only [hpa, hpb] at hst ⊢
      clear hpa hpn hpb
      go_wp2
      have hkk := HI.out
      go_roundg (gk - 1)
      case measure => omega
      case rel => exact ⟨2, rfl, Lib.hid (by omega), Lib.hid (by rw [HPB.out]), rfl⟩
    · have hix : ∀ W : World, (Instr.index 46 (.agg #[.int .u8 b0, .int .u8 b1, .int .u8 b2, .int .u8 b3]) (.int .i64 2)).run Tryd.prog W = .ok (.int .u8 b2) W := idx4b b0 b1 b2 b3 2 (by decide)
      have hst := (of_step (pOf b0 b1 b2 b3 2) b2 (by have := H0.out; have := H1.out; have := H2.out; have := H3.out; simp only [pOf]; omega) H2.out)
      have hpn : pOf b0 b1 b2 b3 2 * 256 + b2 = pOf b0 b1 b2 b3 3 := by first | (simp only [pOf]; done) | (simp only [pOf]; omega)
      rw [hpn] at hst
      obtain ⟨pa, hpa⟩ : ∃ p, pOf b0 b1 b2 b3 2 = p := ⟨_, rfl⟩
      obtain ⟨pb, hpb⟩ : ∃ p, pOf b0 b1 b2 b3 3 = p := ⟨_, rfl⟩
      have HPB := Lib.hid hpb
      simp only [hpa, hpb] at hst ⊢
      clear hpa hpn hpb
      go_wp2
      have hkk := HI.out
      go_roundg (gk - 1)
      case measure => omega
      case rel => exact ⟨3, rfl, Lib.hid (by omega), Lib.hid (by rw [HPB.out]), rfl⟩
    · have hix : ∀ W : World, (Instr.index 46 (.agg #[.int .u8 b0, .int .u8 b1, .int .u8 b2, .int .u8 b3]) (.int .i64 3)).run Tryd.prog W = .ok (.int .u8 b3) W := idx4b b0 b1 b2 b3 3 (by decide)
      have hst := (of_step (pOf b0 b1 b2 b3 3) b3 (by have := H0.out; have := H1.out; have := H2.out; have := H3.out; simp only [pOf]; omega) H3.out)
      have hpn : pOf b0 b1 b2 b3 3 * 256 + b3 = pOf b0 b1 b2 b3 4 := by first | (simp only [pOf]; done) | (simp only [pOf]; omega)
      rw [hpn] at hst
      obtain ⟨pa, hpa⟩ : ∃ p, pOf b0 b1 b2 b3 3 = p := ⟨_, rfl⟩
      obtain ⟨pb, hpb⟩ : ∃ p, pOf b0 b1 b2 b3 4 = p := ⟨_, rfl⟩
      have HPB := Lib.hid hpb
      simp only [hpa, hpb] at hst ⊢
      clear hpa hpn hpb
      go_wp2
      have hkk := HI.out
      go_roundg (gk - 1)
      case measure => omega
      case rel => exact ⟨4, rfl, Lib.hid (by omega), Lib.hid (by rw [HPB.out]), rfl⟩
    · go_wp2
      go_ret
      exact ⟨rfl, HB.out⟩
end Go.Proofs.YtdpoknfidlekbaaDoor
end
