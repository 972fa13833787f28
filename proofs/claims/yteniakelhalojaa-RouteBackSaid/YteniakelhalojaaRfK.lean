/-
  What a range over a function turns in its own record leaves rows, boxes and what was there before as they were. No program in sight.
-/
import Derived.Test.YteniakelhalojaaRf
import Derived.Test.YteniakelhalojaaWMore
import Derived.Test.YteniakelhalojaaWApart
import Derived.Test.YteniakelhalojaaWNEv
namespace Go.Proofs.Yteniakelhalojaa
open Go.RowKit Go.Proofs.YteniakelhalojaaW.PrintWords Go.Proofs.YteniakelhalojaaW.PrintLast Go.Proofs.YteniakelhalojaaW.PrintMore
set_option linter.unusedVariables false
set_option linter.unusedSimpArgs false

theorem S_put {α : Type} {d : Kd α} {e : Nat} {w : World} {base : Nat} {ok : Nat → Prop} {v : Value} {xs : List α} (h : Kd.S d e w base ok v xs) {l : Nat} {o : Obj} (o' : Obj) (hl : w.heap[l]? = some o) (ho : o.isCells = false) : Kd.S d e (w.putObj l o') base ok v xs :=
  Kd.S_mono (Kd.S_move (Kd.S_bound h) (fun k hk => World.putObj_heap_other (by
    rintro rfl
    obtain ⟨_, _, _, q, _, cells, hc⟩ := hk
    rw [hl] at hc; cases hc; cases ho))) (fun _ hk => hk.1)
theorem R_put {α : Type} {d : Kd α} {e : Nat} {w : World} {base : Nat} {ok : Nat → Prop} {v : Value} {xs : List α} (h : d.R e w base ok v xs) {l : Nat} {o : Obj} (o' : Obj) (hl : w.heap[l]? = some o) (ho : o.isCells = false) : d.R e (w.putObj l o') base ok v xs :=
  Kd.R_mono (Kd.R_move (Kd.R_bound h) (fun k hk => World.putObj_heap_other (by
    rintro rfl
    obtain ⟨_, _, _, q, _, cells, hc⟩ := hk
    rw [hl] at hc; cases hc; cases ho))) (fun _ hk => hk.1)
theorem boxed_put {W : World} {B : Nat} {t : TypeId} {v : Value} (h : Boxed W B t v) {l : Nat} {o : Obj} (o' : Obj) (hl : W.heap[l]? = some o) (ho : o.isCells = false) : Boxed (W.putObj l o') B t v :=
  (World.putObj_heap_other (by rintro rfl; rw [show W.heap[B]? = _ from h] at hl; cases hl; cases ho)).trans h
theorem boxed_below {W W' : World} {B : Nat} {t : TypeId} {v : Value} (h : Boxed W B t v) (hb : Below W.heap.size W W') : Boxed W' B t v := (hb.block B h.lt).trans h
theorem below_put {B : Nat} {w W : World} (h : Below B w W) {l : Nat} (o' : Obj) (hl : B ≤ l) : Below B w (W.putObj l o') :=
  h.trans ⟨rfl, rfl, rfl, by simp, fun k hk => World.putObj_heap_other (by omega)⟩
theorem put_other {W : World} {l k : Nat} (o' : Obj) (hne : k ≠ l) {o : Obj} (h : W.heap[k]? = some o) : (W.putObj l o').heap[k]? = some o := (World.putObj_heap_other hne).trans h
theorem put_same {W : World} {l : Nat} (o' : Obj) {o : Obj} (h : W.heap[l]? = some o) : (W.putObj l o').heap[l]? = some o' := World.putObj_heap_same (Array.getElem?_eq_some_iff.1 h).1
theorem lt_of_heap {W : World} {k : Nat} {o : Obj} (h : W.heap[k]? = some o) : k < W.heap.size := (Array.getElem?_eq_some_iff.1 h).1
theorem below_heap {W W' : World} (hb : Below W.heap.size W W') {k : Nat} {o : Obj} (h : W.heap[k]? = some o) : W'.heap[k]? = some o := (hb.block k (lt_of_heap h)).trans h
theorem yieldAt_mono {F : Fence} {n : Nat} {P : Program} {l : Nat} {args : Array Value} {W : World} {R R' : Ending → World → Prop} (h : YieldAt F n P l args W R) (hr : ∀ e w', R e w' → R' e w') : YieldAt F n P l args W R' := by
  obtain ⟨fn, tmps, assign, body, hy, hR⟩ := h
  exact ⟨fn, tmps, assign, body, hy, hR.mono hr⟩

theorem grown_heap {α : Type} {d : Kd α} {e : Nat} {w w1 : World} {base : Nat} {ok : Nat → Prop} {v : Value} {xs : List α} (h : Kd.S d e w base ok v xs) (hg : w.grownBy w1 v.ownBlock) {k : Nat} {o : Obj} (hk : w.heap[k]? = some o) (ho : o.isCells = false) : w1.heap[k]? = some o := by
  refine (hg.block k (lt_of_heap hk) ?_).trans hk
  intro e
  obtain ⟨cells, hc⟩ := Kd.S_typed h k e.symm
  rw [hk] at hc; cases hc; cases ho
theorem boxed_set_other {W : World} {B B' : Nat} {t : TypeId} {v : Value} (u : Value) (h : Boxed W B t v) (hne : B ≠ B') : Boxed (W.setCell ⟨B', 0, none⟩ u) B t v := (Below.heap_setCell _ _ _ _ hne).trans h
theorem set_heap {W : World} {B k : Nat} {t : TypeId} {v u : Value} (h : Boxed W B t v) {o : Obj} (hk : W.heap[k]? = some o) (ho : o.isCells = false) : (W.setCell ⟨B, 0, none⟩ u).heap[k]? = some o :=
  (Below.heap_setCell _ _ _ _ (by rintro rfl; rw [show W.heap[k]? = _ from h] at hk; cases hk; cases ho)).trans hk

end Go.Proofs.Yteniakelhalojaa
