/-
  Nets whose way to the first is the same: what is done on the way to one turns nothing of the other. No program in sight.
-/
import Derived.Test.YtokcplapbjhnoaaHNt9
namespace Go.Proofs.Ytokcplapbjhnoaa
open Go.RowKit Go.Proofs.YtokcplapbjhnoaaW.PrintWords Go.Proofs.YtokcplapbjhnoaaW.PrintLast Go.Proofs.YtokcplapbjhnoaaW.PrintMore
set_option linter.unusedVariables false

def Sim (n m : NtS) : Prop := n.room = m.room ∧ n.cut = m.cut ∧ n.l0 = m.l0
theorem Sim.refl (n : NtS) : Sim n n := ⟨rfl, rfl, rfl⟩
theorem Sim.way {n m : NtS} (h : Sim n m) : n.way 0 = m.way 0 := h.2.2
theorem Sim.place {n m : NtS} (h : Sim n m) (j : Int) : n.place 0 j = m.place 0 j := by unfold NtS.place; rw [h.way]
theorem Sim.set {n m : NtS} (h : Sim n m) (l : List (List Int)) : Sim (n.setWay 0 l) (m.setWay 0 l) := ⟨h.1, h.2.1, rfl⟩
theorem Sim.set1 {n m : NtS} (h : Sim n m) (l : List (List Int)) : Sim (n.setWay 1 l) m := ⟨h.1, h.2.1, h.2.2⟩
theorem Sim.put {n m : NtS} (h : Sim n m) (b : List Int) : Sim (n.put 0 b).2 (m.put 0 b).2 := by
  unfold NtS.put
  rw [h.2.1, h.1, h.way]
  split
  · exact h
  · split
    · exact h
    · split
      · exact h
      · exact h.set _
theorem Sim.take {n m : NtS} (h : Sim n m) (j : Int) : Sim (n.take 0 j) (m.take 0 j) := by
  unfold NtS.take
  rw [h.place, h.way]
  split
  · exact h.set _
  · exact h
theorem Sim.taken {n m : NtS} (h : Sim n m) (j : Int) : n.taken 0 j = m.taken 0 j := by unfold NtS.taken; rw [h.place, h.way]
theorem Sim.len {n m : NtS} (h : Sim n m) : n.len 0 = m.len 0 := by unfold NtS.len; rw [h.way]
theorem Sim.copy {n m : NtS} (h : Sim n m) (j : Int) : Sim (n.copy 0 j).2 (m.copy 0 j).2 := by
  unfold NtS.copy
  rw [h.place, h.way, h.1]
  split
  · split
    · exact h
    · exact h.set _
  · exact h
theorem Sim.step0 {n m : NtS} (h : Sim n m) (d j : Int) (is : Bool) (b : List Int) : Sim (n.nstep d 0 j is b) (m.nstep d 0 j is b) := by
  unfold NtS.nstep
  split
  · exact h.put b
  · split
    · exact h.take j
    · split
      · exact h.copy j
      · split
        · exact h.take j
        · exact ⟨h.1, rfl, h.2.2⟩
theorem Sim.put1 {n m : NtS} (h : Sim n m) (b : List Int) : Sim (n.put 1 b).2 m := by
  unfold NtS.put
  split
  · exact h
  · split
    · exact h
    · split
      · exact h
      · exact h.set1 _
theorem Sim.take1 {n m : NtS} (h : Sim n m) (j : Int) : Sim (n.take 1 j) m := by
  unfold NtS.take
  split
  · exact h.set1 _
  · exact h
theorem Sim.copy1 {n m : NtS} (h : Sim n m) (j : Int) : Sim (n.copy 1 j).2 m := by
  unfold NtS.copy
  split
  · split
    · exact h
    · exact h.set1 _
  · exact h
theorem Sim.step1 {n m : NtS} (h : Sim n m) {d : Int} (h0 : 0 ≤ d) (h3 : d ≤ 3) (j : Int) (is : Bool) (b : List Int) : Sim (n.nstep d 1 j is b) m := by
  unfold NtS.nstep
  split
  · exact h.put1 b
  · split
    · exact h.take1 j
    · split
      · exact h.copy1 j
      · split
        · exact h.take1 j
        · omega

theorem Nets.fr {w W : World} {g h : Nat} {O O' S : Nat → Prop} {n : NtS} (b : Nets w g O h O' n) (hf : Fr w W S) (h1 : ∀ k, O k ∨ O' k → ¬ S k) (hS : ∀ k, S k → k < w.heap.size → ∀ cs, w.heap[k]? ≠ some (.cells cs 5 (0, 0))) : Nets W g O h O' n :=
  ⟨b.nn.fr hf (fun k hk => h1 k (.inl hk)) hS, b.rn.fr hf (fun k hk => h1 k (.inr hk)) hS, b.ne⟩
theorem Nets.clean {w : World} {g h : Nat} {O O' : Nat → Prop} {n : NtS} (b : Nets w g O h O' n) : ∀ k, O k ∨ O' k → ∀ cs, w.heap[k]? ≠ some (.cells cs 5 (0, 0)) := fun k hk => by
  rcases hk with hk | hk
  · exact b.nn.clean (by decide) (by decide) k hk
  · exact b.rn.clean (by decide) (by decide) k hk
theorem Nets.lt {w : World} {g h : Nat} {O O' : Nat → Prop} {n : NtS} (b : Nets w g O h O' n) : ∀ k, O k ∨ O' k → k < w.heap.size := fun k hk => by
  rcases hk with hk | hk
  · exact b.nn.lt k hk
  · exact b.rn.lt k hk
/-- Two pairs of nets, apart. -/
structure Four (w : World) (ga : Nat) (Oa : Nat → Prop) (hr : Nat) (Or : Nat → Prop) (n : NtS) (gb : Nat) (Ob : Nat → Prop) (ht : Nat) (Ot : Nat → Prop) (m : NtS) : Prop where
  p : Nets w ga Oa hr Or n
  q : Nets w gb Ob ht Ot m
  ap : ∀ k, Oa k ∨ Or k → ¬ (Ob k ∨ Ot k)
theorem Four.below {w W : World} {ga hr gb ht : Nat} {Oa Or Ob Ot : Nat → Prop} {n m : NtS} (F : Four w ga Oa hr Or n gb Ob ht Ot m) (hb : Below w.heap.size w W) : Four W ga Oa hr Or n gb Ob ht Ot m := ⟨F.p.below hb, F.q.below hb, F.ap⟩
theorem Four.left {w W : World} {ga hr gb ht : Nat} {Oa Or Ob Ot O1 O2 : Nat → Prop} {n m n' : NtS} (F : Four w ga Oa hr Or n gb Ob ht Ot m) (h1 : Nets W ga O1 hr O2 n') (hf : Fr w W (fun k => Oa k ∨ Or k)) (hO : ∀ k, O1 k ∨ O2 k → Oa k ∨ Or k ∨ w.heap.size ≤ k) : Four W ga O1 hr O2 n' gb Ob ht Ot m :=
  ⟨h1, F.q.fr hf (fun k hk hs => F.ap k hs hk) (fun k hk _ => F.p.clean k hk), fun k hk hs => by
    rcases hO k hk with h | h | h
    · exact F.ap k (.inl h) hs
    · exact F.ap k (.inr h) hs
    · have := F.q.lt k hs; omega⟩
theorem Four.right {w W : World} {ga hr gb ht : Nat} {Oa Or Ob Ot O1 O2 : Nat → Prop} {n m m' : NtS} (F : Four w ga Oa hr Or n gb Ob ht Ot m) (h1 : Nets W gb O1 ht O2 m') (hf : Fr w W (fun k => Ob k ∨ Ot k)) (hO : ∀ k, O1 k ∨ O2 k → Ob k ∨ Ot k ∨ w.heap.size ≤ k) : Four W ga Oa hr Or n gb O1 ht O2 m' :=
  ⟨F.p.fr hf (fun k hk hs => F.ap k hk hs) (fun k hk _ => F.q.clean k hk), h1, fun k hk hs => by
    rcases hO k hs with h | h | h
    · exact F.ap k hk (.inl h)
    · exact F.ap k hk (.inr h)
    · have := F.p.lt k hk; omega⟩
/-- A box that is none of theirs. -/
theorem Four.box {w W : World} {ga hr gb ht bx : Nat} {Oa Or Ob Ot : Nat → Prop} {n m : NtS} {cs : Array Value} {t : TypeId} (F : Four w ga Oa hr Or n gb Ob ht Ot m) (hx : w.heap[bx]? = some (.cells cs t (0, 0))) (ht' : t ≠ 5) (n1 : ∀ k, Oa k ∨ Or k → k ≠ bx) (n2 : ∀ k, Ob k ∨ Ot k → k ≠ bx) (hf : Fr w W (fun k => k = bx)) : Four W ga Oa hr Or n gb Ob ht Ot m := by
  have hS : ∀ k, (fun k => k = bx) k → k < w.heap.size → ∀ cs, w.heap[k]? ≠ some (.cells cs 5 (0, 0)) := by
    intro k hk _ cs hc
    have hk : k = bx := hk
    subst hk
    rw [hx] at hc
    injection hc with hc
    injection hc with _ hc
    exact ht' hc
  exact ⟨F.p.fr hf (fun k hk => n1 k hk) hS, F.q.fr hf (fun k hk => n2 k hk) hS, F.ap⟩
/-- All that either pair may have turned is above what was. -/
theorem out2 {w W W' : World} {O O' O1 O2 : Nat → Prop} (B : Below w.heap.size w W) (GE : ∀ k, O k ∨ O' k → w.heap.size ≤ k) (hf : Fr W W' (fun k => O k ∨ O' k)) (hO : ∀ k, O1 k ∨ O2 k → O k ∨ O' k ∨ W.heap.size ≤ k) : Below w.heap.size w W' ∧ ∀ k, O1 k ∨ O2 k → w.heap.size ≤ k :=
  ⟨below_fr B hf B.size GE, fun k hk => by
    rcases hO k hk with h | h | h
    · exact GE k (.inl h)
    · exact GE k (.inr h)
    · exact Nat.le_trans B.size h⟩
end Go.Proofs.Ytokcplapbjhnoaa
