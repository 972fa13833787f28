/-
  A range over a function, at the wide fence, in the form that these proofs use: the loop's record is named, the iterator is one plain call whose world is told at its end; a round is one call of yield. No program in sight.
-/
import Derived.RangeFuncNested
import Derived.RangeFuncBox
import Derived.WalkKit
import Derived.KernelRfl
import Derived.OwnWalkIn
import Derived.TacticsInMore
import Derived.LoopNIn
import Derived.LoopIn
import Derived.Maps.AppendAt
namespace Go.Proofs.Yteniakelhalojaa
open Go.RowKit
set_option linter.unusedVariables false
set_option linter.unusedSimpArgs false

variable {P : Program}

/-- The loop's record. -/
def rfRec (fn : FuncId) (tmps : Array Value) (ps : Array Tmp) (assign body : Code) (dk : Nat) (st : LoopState) (pe : Option Code) : Loop :=
  { state := st, pending := pe, fn, tmps, params := ps, assign, body, defers := dk }

/-- What stands in the heap where the iterator begins. -/
def rfStart (w : World) (r : Loop) : World := (w.alloc (.deferred (some []))).alloc (.loop r)

theorem rfStart_size (w : World) (r : Loop) : (rfStart w r).heap.size = w.heap.size + 2 := by simp [rfStart]
theorem rfStart_below (w : World) (r : Loop) : Below w.heap.size w (rfStart w r) := ((Below.refl _ w).alloc (Nat.le_refl _) _).alloc (by simp) _
theorem rfStart_loop (w : World) (r : Loop) : (rfStart w r).heap[w.heap.size + 1]? = some (.loop r) := by
  have := World.alloc_heap_new (w.alloc (.deferred (some []))) (.loop r)
  rwa [World.size_alloc] at this
theorem rfStart_def (w : World) (r : Loop) : (rfStart w r).heap[w.heap.size]? = some (.deferred (some [])) :=
  (Below.heap_alloc _ _ _ (by simp)).trans (World.alloc_heap_new w _)

theorem rf_wide {n : Nat} {g : Operand} {ps : Array Tmp} {assign body : Code} {Q : Exit → Act → World → Prop} {a : Act} {w : World}
    {gf : Nat} {lb : Array Value} (hg : a.eval g = .func (.func gf) #[] lb) (eg : ∀ args w, (callFunc gf args).run P w = .ok (.enter gf args) w)
    (h : ∀ (fn : FuncId) (r : LoopState → Option Code → Loop), r = rfRec fn a.tmps ps assign body w.heap.size → Calls P gf (#[.func (.yield (w.heap.size + 1)) #[] #[]] ++ lb) (rfStart w (r .ready none)) fun e W =>
        (∃ v, e = .returned v) ∧
        ((W.heap[w.heap.size + 1]? = some (.loop (r .ready none)) ∧
            Q .normal { a with defers := { target := .collected w.heap.size, args := #[] } :: a.defers } (W.putObj (w.heap.size + 1) (.loop (r .exhausted none)))) ∨
         ∃ c, W.heap[w.heap.size + 1]? = some (.loop (r .done (some c))) ∧
            c.wpIn Fence.wide n P Q { a with defers := { target := .collected w.heap.size, args := #[] } :: a.defers } (W.putObj (w.heap.size + 1) (.loop (r .exhausted (some c)))))) :
    (Code.rangeFunc g ps assign body).wpIn Fence.wide n P Q a w := by
  refine wpIn_rangeFunc ?_
  intro fn _
  refine ⟨w.heap.size + 1, [{ target := .collected w.heap.size, args := #[] }], rfStart w (rfRec fn a.tmps ps assign body w.heap.size .ready none), { target := .fn (.func gf) lb, args := #[.func (.yield (w.heap.size + 1)) #[] #[]] },
    rfStart w (rfRec fn a.tmps ps assign body w.heap.size .ready none), gf, #[.func (.yield (w.heap.size + 1)) #[] #[]] ++ lb, rfStart w (rfRec fn a.tmps ps assign body w.heap.size .ready none), ?_, ?_, ?_, ?_, ?_, ?_⟩
  · exact run_enterLoop_outer _ _ _ _ _
  · simp only [resolve, hg]
    simp [go_sem]
  · intro _ _; trivial
  · simp [invoke, go_sem, eg]
  · intro h0; simp [Fence.wide] at h0
  · refine callsIn_wide.2 ((h fn _ rfl).mono ?_)
    rintro e W ⟨⟨v, rfl⟩, ⟨hl, hq⟩ | ⟨c, hl, hq⟩⟩
    · exact ⟨none, _, by have := run_endLoop (P := P) hl (by simp [rfRec]); simpa [rfRec] using this, hq⟩
    · exact ⟨some c, _, by have := run_endLoop (P := P) hl (by simp [rfRec]); simpa [rfRec] using this, hq⟩

/-- How a round may be left: where it goes on, yield answers true; where it leaves by a jump, false. -/
def rfPost (r : LoopState → Option Code → Loop) (l : Nat) (R : Bool → Option Code → World → Prop) : Exit → Act → World → Prop
  | .normal, _, W => W.heap[l]? = some (.loop (r .busy none)) ∧ R true none (W.putObj l (.loop (r .ready none)))
  | .ret, _, W => W.heap[l]? = some (.loop (r .busy none)) ∧ R false (some .ret) (W.putObj l (.loop (r .done (some .ret))))
  | .exit id, _, W => W.heap[l]? = some (.loop (r .busy none)) ∧ R false (some (.exit id)) (W.putObj l (.loop (r .done (some (.exit id)))))
  | _, _, _ => False

theorem rf_round {n l : Nat} {W : World} {args : Array Value} (R : Bool → Option Code → World → Prop) {fn : FuncId} {tmps : Array Value} {ps : Array Tmp} {assign body : Code} {dk : Nat} {r : LoopState → Option Code → Loop}
    (hr : r = rfRec fn tmps ps assign body dk) (hl : W.heap[l]? = some (.loop (r .ready none))) (hs : args.size = ps.size) (a₁ : Act)
    (hassign : ∀ K : Act → World → Prop, K a₁ W → assign.wpIn (Fence.wide.inRound l) n P (Exit.then K (fun _ _ _ => False)) { tmps := (ps.zip args).foldl (fun t (p, v) => t.setIfInBounds p v) tmps, defers := [] } W)
    (hbody : body.wpIn (Fence.wide.inRound l) n P (rfPost r l R) a₁ (W.putObj l (.loop (r .busy none)))) :
    YieldAt Fence.wide n P l args W fun e W' => ∃ b jump, e = .returned (.bool b) ∧ R b jump W' ∧ (b = true → jump = none) := by
  subst hr
  have hy := run_yield (P := P) (args := args) hl (by simpa [rfRec] using hs)
  refine ⟨fn, _, assign, body, hy, roundIn_of_wpIn trivial (hassign _ ⟨_, run_beginRound hl rfl, ?_⟩)⟩
  refine wpIn_mono hbody ?_
  intro e a W3 hp
  cases e with
  | normal =>
    obtain ⟨hb, hr⟩ := hp
    exact ⟨_, _, run_endRound (P := P) none hb, true, none, rfl, hr, fun _ => rfl⟩
  | ret =>
    obtain ⟨hb, hr⟩ := hp
    exact ⟨_, _, run_endRound (P := P) (some .ret) hb, false, some .ret, rfl, hr, fun h => by cases h⟩
  | exit id =>
    obtain ⟨hb, hr⟩ := hp
    exact ⟨_, _, run_endRound (P := P) (some (.exit id)) hb, false, some (.exit id), rfl, hr, fun h => by cases h⟩
  | goto t => exact hp.elim
  | panic ch => exact hp.elim
  | outgrown => exact hp.elim

/-- One operation of a round that is no 'defer', walked by the laws of the plain layer. -/
theorem wpListIn_of_one {n l : Nat} {ops : Array Oper} {Q : Exit → Act → World → Prop} {o : Oper} {rest : List Oper} {a : Act} {w : World}
    (hnd : ∀ c, o.op ≠ .defer c) (hno : ∀ a w, ¬ Q .outgrown a w)
    (h : wpList P ops (Exit.then (fun a w => wpListIn (Fence.wide.inRound l) n P ops Q rest a w) Q) [o] a w) :
    wpListIn (Fence.wide.inRound l) n P ops Q (o :: rest) a w := by
  have hlo : ¬ LetsOut (Exit.then (fun a w => wpListIn (Fence.wide.inRound l) n P ops Q rest a w) Q) := fun ⟨a, w, h⟩ => hno a w h
  simp only [wpList] at h
  simp only [wpListIn]
  by_cases hw : Region.wanted o (yielded ops a.tmps) = true
  · rw [if_pos hw] at h ⊢
    rcases h with h | ⟨_, h⟩
    · refine ⟨fun _ _ => trivial, ?_⟩
      have hs : o.semAt (some l) a.eval = execOp a.eval o := Oper.semAt_some l a.eval o hnd
      show o.uponIn _ _ _ _ _ _ ((o.semAt (some l) a.eval).run P w)
      rw [hs]
      unfold Oper.wp at h
      cases hr : (execOp a.eval o).run P w with
      | halt hh w' =>
        rw [hr] at h
        cases hh <;> first | exact h | exact h.elim
      | ok nx w' =>
        rw [hr] at h
        cases nx with
        | value v => exact h
        | skip => exact h
        | defer d => exact h
        | enter f args =>
          refine ⟨fun hd => by simp [Fence.wide, Fence.inRound] at hd, CallsIn.inRound l (callsIn_wide.2 (Calls.mono h ?_))⟩
          intro e w2 he
          cases e with
          | returned v => exact he
          | panicked c => exact he
          | outgrown => exact (hlo he).elim
        | row r args =>
          refine ⟨fun hd => by simp [Fence.wide, Fence.inRound] at hd, fun c cs _ => ?_⟩
          obtain ⟨v, w2, hq, hst⟩ := h c cs
          exact ⟨v, w2, hq, stepsIn_wide.2 hst⟩
        | _ => exact h.elim
    · exact (hlo h).elim
  · rw [if_neg hw] at h ⊢
    exact ⟨fun _ _ => trivial, h⟩

theorem wpList_back {n l : Nat} {ops : Array Oper} {Q : Exit → Act → World → Prop} {rest : List Oper} {a : Act} {w : World} (h : wpListIn (Fence.wide.inRound l) n P ops Q rest a w) :
    wpList P ops (Exit.then (fun a w => wpListIn (Fence.wide.inRound l) n P ops Q rest a w) Q) [] a w := h

end Go.Proofs.Yteniakelhalojaa
