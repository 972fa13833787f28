/-
  A region that draws its order inside a fence, walked by hand: the twin of the print's words (start_, take_, one_, done_) where a round is yielded in it. No program in sight.
-/
import Derived.OrdersIn
import Derived.RangeFuncSeq
import Derived.Test.YteniakelhalojaaWWords
import Derived.Test.YteniakelhalojaaWLast
namespace Go.Proofs.Yteniakelhalojaa
open Go.Proofs.YteniakelhalojaaW.PrintLast
set_option linter.unusedVariables false

section
variable {F : Fence} {n : Nat} {P : Program} {ops : Array Oper} {Q : Exit → Act → World → Prop} {md : Region.Mode} {S : World → Prop} {ds : List Nat}

/-- It yields where S holds, and is about no function, in whatever world. -/
def YieldsIfI (P : Program) (ops : Array Oper) (S : World → Prop) (o : Oper) (v : Value) (a : Act) : Prop := YieldsIf P ops S o v a ∧ ∀ w, o.about P w a.eval = none
theorem YieldsIfI.at_ {i : Nat} {o : Oper} {v : Value} {a : Act} (hro : F.round = none) (hi : ops[i]? = some o) (hy : YieldsIfI P ops S o v a) {K : Act → World → Prop} {w : World} (hS : S w) (h : K (a.put o.dst v) w) : wpOpIn F n P ops Q i K a w := by
  unfold wpOpIn
  simp only [hi]
  have hab : ∀ f, o.about P w a.eval = some f → F.fn f := fun f hf => by rw [hy.2 w] at hf; cases hf
  rcases hy.1 with ⟨hw, hv⟩ | ⟨hw, rfl⟩
  · simp only [hw, if_true, Oper.wpIn, hro, Oper.semAt_none, hv w hS, Oper.uponIn]; exact ⟨hab, h⟩
  · simp only [hw, Bool.false_eq_true, if_false]; exact ⟨hab, h⟩
theorem YieldsIfI.same_ {o : Oper} {v : Value} {a a' : Act} (hy : YieldsIfI P ops S o v a) (he : execOp a'.eval o = execOp a.eval o)
    (hw : Region.wanted o (yielded ops a'.tmps) = Region.wanted o (yielded ops a.tmps)) (hb : ∀ w, o.about P w a'.eval = o.about P w a.eval) : YieldsIfI P ops S o v a' :=
  ⟨hy.1.of_same he hw, fun w => by rw [hb w]; exact hy.2 w⟩
theorem opIn_put {j : Nat} {oi oj : Oper} {v : Value} (hro : F.round = none) (hj : ops[j]? = some oj) (hap : oi.apart ops oj = true)
    (hsi : ∀ cs b, oi.op ≠ .select cs b) (hsj : ∀ cs b, oj.op ≠ .select cs b) (hQ : ∀ c a w, Q (.panic c) (a.put oi.dst v) w → Q (.panic c) a w) {K : Act → World → Prop} {a : Act} {w : World}
    (hy : YieldsIfI P ops S oi v a) (h : wpOpIn F n P ops Q j K (a.put oi.dst v) w) : wpOpIn F n P ops Q j (fun a' w' => YieldsIfI P ops S oi v a' ∧ K (a'.put oi.dst v) w') a w := by
  obtain ⟨h1, h2, h3⟩ := Oper.apart_spec hap
  have keep : ∀ (a : Act), YieldsIfI P ops S oi v a → ∀ u, YieldsIfI P ops S oi v (a.put oj.dst u) := fun a hy u =>
    hy.same_ (execOp_put oi hsi a oj.dst u h3) (wanted_put oi a oj.dst u h3) (fun w => about_put oi w a oj.dst u h3)
  have keepD : ∀ d, YieldsIfI P ops S oi v { a with defers := d :: a.defers } := fun d => hy.same_ rfl rfl (fun _ => rfl)
  unfold wpOpIn at *
  simp only [hj] at *
  rw [wanted_put oj a oi.dst v h1, about_put oj w a oi.dst v h1] at h
  split
  case isFalse hw =>
    simp only [hw] at h
    exact ⟨h.1, keep a hy _, by rw [← Act.put_comm a v undef h2]; exact h.2⟩
  case isTrue hw =>
    simp only [hw, if_true] at h
    unfold Oper.wpIn at *
    rw [about_put oj w a oi.dst v h1] at h
    obtain ⟨ha, h⟩ := h
    refine ⟨ha, ?_⟩
    rw [hro, Oper.semAt_none, execOp_put oj hsj a oi.dst v h1] at h
    rw [hro, Oper.semAt_none]
    generalize (execOp a.eval oj).run P w = r at *
    cases r with
    | halt x w' => cases x <;> simp only [Oper.uponIn] at h ⊢ <;> exact hQ _ _ _ h
    | ok x w' =>
      cases x <;> simp only [Oper.uponIn] at h ⊢
      case value u => exact ⟨keep a hy u, by rw [← Act.put_comm a v u h2]; exact h⟩
      case skip => exact ⟨keep a hy _, by rw [← Act.put_comm a v undef h2]; exact h⟩
      case defer d => exact ⟨keep _ (keepD d) _, by rw [← Act.put_comm _ v undef h2, ← Act.put_defers]; exact h⟩
      case row row args => exact ⟨h.1, RowsIn.mono h.2 fun u w'' he => ⟨keep a hy u, by rw [← Act.put_comm a v u h2]; exact he⟩⟩
      case enter f args =>
        refine ⟨h.1, CallsIn.mono h.2 fun e w'' he => ?_⟩
        cases e with
        | returned u => exact ⟨keep a hy u, by rw [← Act.put_comm a v u h2]; exact he⟩
        | panicked c => exact hQ _ _ _ he
        | outgrown => exact he
      case round l f tmps assign body =>
        refine ⟨h.1, RoundIn.mono h.2 fun e w'' he => ?_⟩
        cases e with
        | returned u => exact ⟨keep a hy u, by rw [← Act.put_comm a v u h2]; exact he⟩
        | panicked c => exact hQ _ _ _ he
        | outgrown => exact he

/-- Whatever order is picked, and S holds behind every operation but those of ds. -/
def wpAnyLI (F : Fence) (n : Nat) (P : Program) (md : Region.Mode) (ops : Array Oper) (Q : Exit → Act → World → Prop) (S : World → Prop) (ds : List Nat) : Nat → Array Bool → Act → World → Prop
  | 0, listed, a, w => Region.ready md ops listed = [] ∧ Q .normal a w
  | fuel + 1, listed, a, w =>
    (Region.ready md ops listed = [] → Q .normal a w) ∧
    ∀ i ∈ Region.ready md ops listed, wpOpIn F n P ops Q i (fun a' w' => (i ∉ ds → S w → S w') ∧ wpAnyLI F n P md ops Q S ds fuel (listed.setIfInBounds i true) a' w') a w
theorem wpAnyIn_of_LI : ∀ (fuel : Nat) (listed : Array Bool) (a : Act) (w : World), wpAnyLI F n P md ops Q S ds fuel listed a w → wpAnyIn F n P md ops Q fuel listed a w
  | 0, _, _, _, h => h
  | fuel + 1, _, _, _, h => ⟨h.1, fun i hi => wpOpIn_mono (fun a' w' h' => wpAnyIn_of_LI fuel _ a' w' h'.2) (h.2 i hi)⟩
theorem li_first {i : Nat} {oi : Oper} {v : Value} (hro : F.round = none) (hi : ops[i]? = some oi) (hsel : ∀ (j : Nat) (o : Oper) cs b, ops[j]? = some o → o.op ≠ .select cs b) (hQ : ∀ c a w, Q (.panic c) (a.put oi.dst v) w → Q (.panic c) a w) (m : Nat) :
    ∀ (fuel : Nat) (listed : Array Bool) (a : Act) (w : World),
      (∀ j oj, ops[j]? = some oj → j ≠ i → listed.getD j true = false → (∀ e ∈ oj.after, Region.binds md e = true → e.on ≠ i) → oi.apart ops oj = true) →
      ListedClosed md ops listed → (∀ d ∈ ds, listed.getD d true = false → Region.reachB md ops i m d = true) →
      i ∈ Region.ready md ops listed → YieldsIfI P ops S oi v a → S w →
      wpAnyLI F n P md ops Q S ds fuel (listed.setIfInBounds i true) (a.put oi.dst v) w → wpAnyLI F n P md ops Q S ds (fuel + 1) listed a w := by
  intro fuel
  induction fuel with
  | zero =>
    intro listed a w _ _ _ hr hy hS H
    refine ⟨fun h => (by rw [h] at hr; cases hr), fun j hj => ?_⟩
    by_cases hji : j = i
    · subst hji; exact hy.at_ hro hi hS ⟨fun _ h => h, H⟩
    · have := ready_mono hj hji
      rw [H.1] at this
      cases this
  | succ fuel ih =>
    intro listed a w hfree hc hd hr hy hS H
    refine ⟨fun h => (by rw [h] at hr; cases hr), fun j hj => ?_⟩
    by_cases hji : j = i
    · subst hji; exact hy.at_ hro hi hS ⟨fun _ h => h, H⟩
    · have h1 := H.2 j (ready_mono hj hji)
      obtain ⟨hjun, oj, hoj, hall⟩ := mem_ready.1 hj
      have hiun := (mem_ready.1 hr).1
      have hnot : ∀ e ∈ oj.after, Region.binds md e = true → e.on ≠ i := fun e he hb heq => by
        have h1 := hall e he hb
        rw [heq] at h1
        rcases Nat.lt_or_ge i listed.size with h' | h'
        · simp [h'] at hiun h1; rw [hiun] at h1; cases h1
        · simp [Array.getElem?_eq_none h'] at h1
      have hjd : j ∉ ds := fun hm => Region.reach_not_ready hc (hd j hm hjun) hiun hj
      have h2 := opIn_put hro hoj (hfree j oj hoj hji hjun hnot) (fun cs b => hsel i oi cs b hi) (fun cs b => hsel j oj cs b hoj) hQ hy h1
      have back : ∀ k, (listed.setIfInBounds j true).getD k true = false → listed.getD k true = false := fun k hun => by
        by_cases hjk : j = k
        · subst hjk; exact hjun
        · rwa [getD_set_ne true hjk] at hun
      refine wpOpIn_mono (fun a' w' h3 => ⟨h3.2.1, ih (listed.setIfInBounds j true) a' w' (fun k ok hk hki hun hno => hfree k ok hk hki (back k hun) hno) (hc.set hj) (fun d hm hun => hd d hm (back d hun)) (ready_mono hr (Ne.symm hji)) h3.1 (h3.2.1 hjd hS) ?_⟩) h2
      rw [Array.setIfInBounds_comm _ _ hji]
      exact h3.2.2

theorem startI_ {id m : Nat} {a : Act} {w : World} (l : Array Bool) (hm : P.follows .mixedOrders = true) (hn : ops.size = m) (hl : Array.replicate m false = l) (hS : S w.drew)
    (h : S w.drew → wpAnyLI F n P .any ops Q S ds m l a w.drew) : (Code.region id ops true).wpIn F n P Q a w := by
  subst hn
  subst hl
  exact wpIn_region_any hm (wpAnyIn_of_LI _ _ _ _ (h hS))
theorem takeI_ {i : Nat} {N : Option Tmp} {oi : Oper} {v : Value} {fuel : Nat} {l : Array Bool} {a : Act} {w : World} (hro : F.round = none) (l' : Array Bool) (hi : ops[i]? = some oi) (hN : oi.dst = N) (hc : takeB md ops ds l l' i = true)
    (hQ : ∀ c a w, Q (.panic c) (a.put oi.dst v) w → Q (.panic c) a w) (hy : YieldsIf P ops S oi v a) (hab : ∀ w, oi.about P w a.eval = none) (hS : S w) {a' : Act} (ha : a.put N v = a')
    (h : wpAnyLI F n P md ops Q S ds fuel l' a' w) : wpAnyLI F n P md ops Q S ds (fuel + 1) l a w := by
  subst ha
  subst hN
  simp only [takeB, Bool.and_eq_true, beq_iff_eq] at hc
  obtain ⟨⟨⟨⟨⟨h1, h2⟩, h3⟩, h4⟩, h5⟩, h6⟩ := hc
  subst h6
  exact li_first hro hi (Region.noSelect_spec h1) hQ ops.size fuel l a w (Region.free_spec hi h2) (Region.closedB_spec h4)
    (fun d hm hun => by have := List.all_eq_true.1 h5 d hm; rw [hun] at this; simpa using this) (by simpa using h3) ⟨hy, hab⟩ hS h
theorem oneI_ {i : Nat} {N : Option Tmp} {oi : Oper} {fuel : Nat} {l : Array Bool} {a : Act} {w : World} (l' : Array Bool) (hi : ops[i]? = some oi) (hN : oi.dst = N) (hc : readyB md ops l l' i = true) (hd : i ∉ ds) (hw : Region.wanted oi (yielded ops a.tmps) = true)
    (h : ∀ K : Act → World → Prop, Shut (∀ a' w', S w' → (S w' → wpAnyLI F n P md ops Q S ds fuel l' a' w') → K a' w') → Oper.wpIn F n P oi a w K Q) :
    wpAnyLI F n P md ops Q S ds (fuel + 1) l a w := by
  subst hN
  simp only [readyB, Bool.and_eq_true, beq_iff_eq] at hc
  obtain ⟨h1, h2⟩ := hc
  subst h2
  refine ⟨fun h0 => absurd (h1.symm.trans h0) (by simp), fun j hj => ?_⟩
  rw [h1] at hj
  obtain rfl : j = i := by simpa using hj
  refine wpOpIn_step hi fun K' hK => ?_
  rw [if_pos hw]
  exact h K' (fun a' w' hS hW => hK a' w' ⟨fun _ _ => hS, hW hS⟩)
/-- The last one: nothing is shown behind it. -/
theorem lastI_ {i : Nat} {N : Option Tmp} {oi : Oper} {fuel : Nat} {l : Array Bool} {a : Act} {w : World} (l' : Array Bool) (hi : ops[i]? = some oi) (hN : oi.dst = N) (hc : readyB md ops l l' i = true) (hd : i ∈ ds) (hw : Region.wanted oi (yielded ops a.tmps) = true)
    (h : ∀ K : Act → World → Prop, Shut (∀ a' w', wpAnyLI F n P md ops Q S ds fuel l' a' w' → K a' w') → Oper.wpIn F n P oi a w K Q) :
    wpAnyLI F n P md ops Q S ds (fuel + 1) l a w := by
  subst hN
  simp only [readyB, Bool.and_eq_true, beq_iff_eq] at hc
  obtain ⟨h1, h2⟩ := hc
  subst h2
  refine ⟨fun h0 => absurd (h1.symm.trans h0) (by simp), fun j hj => ?_⟩
  rw [h1] at hj
  obtain rfl : j = i := by simpa using hj
  refine wpOpIn_step hi fun K' hK => ?_
  rw [if_pos hw]
  exact h K' (fun a' w' hW => hK a' w' ⟨fun hn => absurd hd hn, hW⟩)
theorem doneI_ {l : Array Bool} {a : Act} {w : World} {m : Nat} (hr : (Region.ready md ops l == []) = true) (h : Q .normal a w) : wpAnyLI F n P md ops Q S ds m l a w := by
  have hr : Region.ready md ops l = [] := by simpa using hr
  cases m with
  | zero => exact ⟨hr, h⟩
  | succ m => exact ⟨fun _ => h, by rw [hr]; simp⟩
/-- Taken first, which yields whatever the world: no S is asked for. -/
theorem li_any {i : Nat} {oi : Oper} {v : Value} (hro : F.round = none) (hi : ops[i]? = some oi) (hsel : ∀ (j : Nat) (o : Oper) cs b, ops[j]? = some o → o.op ≠ .select cs b) (hQ : ∀ c a w, Q (.panic c) (a.put oi.dst v) w → Q (.panic c) a w) :
    ∀ (fuel : Nat) (listed : Array Bool) (a : Act) (w : World),
      (∀ j oj, ops[j]? = some oj → j ≠ i → listed.getD j true = false → (∀ e ∈ oj.after, Region.binds md e = true → e.on ≠ i) → oi.apart ops oj = true) →
      i ∈ Region.ready md ops listed → YieldsIfI P ops (fun _ => True) oi v a →
      wpAnyLI F n P md ops Q S ds fuel (listed.setIfInBounds i true) (a.put oi.dst v) w → wpAnyLI F n P md ops Q S ds (fuel + 1) listed a w := by
  intro fuel
  induction fuel with
  | zero =>
    intro listed a w _ hr hy H
    refine ⟨fun h => (by rw [h] at hr; cases hr), fun j hj => ?_⟩
    by_cases hji : j = i
    · subst hji; exact hy.at_ hro hi trivial ⟨fun _ h => h, H⟩
    · have := ready_mono hj hji
      rw [H.1] at this
      cases this
  | succ fuel ih =>
    intro listed a w hfree hr hy H
    refine ⟨fun h => (by rw [h] at hr; cases hr), fun j hj => ?_⟩
    by_cases hji : j = i
    · subst hji; exact hy.at_ hro hi trivial ⟨fun _ h => h, H⟩
    · have h1 := H.2 j (ready_mono hj hji)
      obtain ⟨hjun, oj, hoj, hall⟩ := mem_ready.1 hj
      have hiun := (mem_ready.1 hr).1
      have hnot : ∀ e ∈ oj.after, Region.binds md e = true → e.on ≠ i := fun e he hb heq => by
        have h1 := hall e he hb
        rw [heq] at h1
        rcases Nat.lt_or_ge i listed.size with h' | h'
        · simp [h'] at hiun h1; rw [hiun] at h1; cases h1
        · simp [Array.getElem?_eq_none h'] at h1
      have h2 := opIn_put hro hoj (hfree j oj hoj hji hjun hnot) (fun cs b => hsel i oi cs b hi) (fun cs b => hsel j oj cs b hoj) hQ hy h1
      have back : ∀ k, (listed.setIfInBounds j true).getD k true = false → listed.getD k true = false := fun k hun => by
        by_cases hjk : j = k
        · subst hjk; exact hjun
        · rwa [getD_set_ne true hjk] at hun
      refine wpOpIn_mono (fun a' w' h3 => ⟨h3.2.1, ih (listed.setIfInBounds j true) a' w' (fun k ok hk hki hun hno => hfree k ok hk hki (back k hun) hno) (ready_mono hr (Ne.symm hji)) h3.1 ?_⟩) h2
      rw [Array.setIfInBounds_comm _ _ hji]
      exact h3.2.2
theorem pureI_ {i : Nat} {N : Option Tmp} {oi : Oper} {v : Value} {fuel : Nat} {l : Array Bool} {a : Act} {w : World} (hro : F.round = none) (l' : Array Bool) (hi : ops[i]? = some oi) (hN : oi.dst = N) (hc : anyB md ops l l' i = true)
    (hQ : ∀ c a w, Q (.panic c) (a.put oi.dst v) w → Q (.panic c) a w) (hy : YieldsIf P ops (fun _ => True) oi v a) (hab : ∀ w, oi.about P w a.eval = none) {a' : Act} (ha : a.put N v = a')
    (h : wpAnyLI F n P md ops Q S ds fuel l' a' w) : wpAnyLI F n P md ops Q S ds (fuel + 1) l a w := by
  subst ha
  subst hN
  simp only [anyB, Bool.and_eq_true, beq_iff_eq] at hc
  obtain ⟨⟨⟨h1, h2⟩, h3⟩, h6⟩ := hc
  subst h6
  exact li_any hro hi (Region.noSelect_spec h1) hQ fuel l a w (Region.free_spec hi h2) (by simpa using h3) ⟨hy, hab⟩ h
theorem normI_ {fuel : Nat} {l : Array Bool} {a a' : Act} {w : World} (ha : a = a') (h : wpAnyLI F n P md ops Q S ds fuel l a' w) : wpAnyLI F n P md ops Q S ds fuel l a w := by
  subst ha
  exact h
/-- A call of a function, and of the loop's yield, as one operation at the wide fence. -/
theorem callI_ {oi : Oper} {N : Option Tmp} {a : Act} {w : World} {K : Act → World → Prop} {f : FuncId} {fn : Func} {xs : Array Operand} {ts : Array TypeId} (hf : P.funcs[f]? = some fn) (hname : (fn.name == "runtime.NumGoroutine") = false) (hb : fn.body.isSome = true) (args : Array Value)
    (hN : oi.dst = N) (hop : oi.op = .call { callee := .value (.func f), args := xs, argTypes := ts }) (hargs : xs.map a.eval = args)
    (h : Calls P f args w fun e w' => ∃ v, e = .returned v ∧ K (a.put N v) w') : Oper.wpIn Fence.wide n P oi a w K Q := by
  subst hN
  have he := enters_ hf hname hb args w
  refine ⟨fun _ _ => trivial, ?_⟩
  have hrun : (oi.semAt Fence.wide.round a.eval).run P w = .ok (.enter f args) w := by
    show (oi.semAt none a.eval).run P w = _
    rw [Oper.semAt_none]
    unfold execOp
    have hc : a.eval (.func f) = .func (.func f) #[] #[] := by first | rfl | (simp [Act.eval]; done)
    simp [hop, resolve, Deferred.ofValue, invoke, hc, hargs, he]
  rw [hrun]
  refine ⟨fun hd => by simp [Fence.wide] at hd, callsIn_wide.2 (h.mono ?_)⟩
  rintro e w' ⟨v, rfl, hk⟩
  exact hk
theorem yieldI_ {oi : Oper} {N : Option Tmp} {a : Act} {w : World} {K : Act → World → Prop} {l : Nat} {c : Operand} {xs : Array Operand} {ts : Array TypeId} (args : Array Value)
    (hN : oi.dst = N) (hop : oi.op = .call { callee := .value c, args := xs, argTypes := ts }) (hc : a.eval c = .func (.yield l) #[] #[]) (hargs : xs.map a.eval = args)
    (h : YieldAt Fence.wide n P l args w fun e w' => ∃ v, e = .returned v ∧ K (a.put N v) w') : Oper.wpIn Fence.wide (n + 1) P oi a w K Q := by
  subst hN
  obtain ⟨fn, tmps, assign, body, hy, hR⟩ := h
  refine ⟨fun _ _ => trivial, ?_⟩
  have hrun : (oi.semAt Fence.wide.round a.eval).run P w = .ok (.round l fn tmps assign body) w := by
    show (oi.semAt none a.eval).run P w = _
    rw [Oper.semAt_none]
    unfold execOp
    simp [hop, resolve, Deferred.ofValue, invoke, hc, hargs, hy]
  rw [hrun]
  refine ⟨fun hd => by simp [Fence.wide] at hd, hR.mono ?_⟩
  rintro e w' ⟨v, rfl, hk⟩
  exact hk
end
end Go.Proofs.Yteniakelhalojaa
