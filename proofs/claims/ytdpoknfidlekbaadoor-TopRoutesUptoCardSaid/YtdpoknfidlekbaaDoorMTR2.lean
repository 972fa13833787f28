/-
  Arrays of four bytes in memory: loaded, sliced, filled by copy, seen in a slice. No program's function.
  A region that draws its order inside a fence, walked by hand: the twin of the print's words (start_, take_, one_, done_) where a round is yielded in it. No program in sight.
  route.routes: the routes of bytes, handed on one by one. Condition: bytes, fewer than 2^40.
  route.Decode in the print's form. Condition: bytes, fewer than 2^40.
  Routes decoded, over numbers and lists: what the reference computes, and that routes are decoded as they were. No condition.
  Routes' data is decoded as they were; any data that is decoded is that of its routes: over numbers and lists. No condition.
  Printed: PrF28.
  Printed: PrF18.
  Printed: PrF29.
-/
import Derived.Test.YtdpoknfidlekbaaDoorMTR1
import Derived.Laws.CopyOwn
import Derived.Laws.IdiomCopy
import Derived.Laws.CopyRow
import Derived.OrdersIn
import Derived.RangeFuncSeq
import Derived.Test.YtdpoknfidlekbaaDoorWWords
import Derived.Test.YtdpoknfidlekbaaDoorWLast
import Derived.Deep.QuietTactic

section
namespace Go.Proofs.YtdpoknfidlekbaaDoor
open Go.RowKit Go.Proofs.YtdpoknfidlekbaaDoor.Pr Go.Proofs.YtdpoknfidlekbaaDoorW.PrintWords Go.Proofs.YtdpoknfidlekbaaDoorW.PrintLast Go.Proofs.YtdpoknfidlekbaaDoorW.PrintMore
set_option linter.unusedVariables false
set_option linter.unusedSimpArgs false

theorem load4 (a : Addr) (v0 v1 v2 v3 : Value) (W : World) (h0 : W.cell? a = some v0) (h1 : W.cell? (a.add 1) = some v1) (h2 : W.cell? (a.add 2) = some v2) (h3 : W.cell? (a.add 3) = some v3) :
    (Instr.loadAt 46 (.pointer (some a))).run Tryd.prog W = .ok (.agg #[v0, v1, v2, v3]) W := by
  have hl := run_loadCells_list (P := Tryd.prog) W a [v0, v1, v2, v3] (fun j v hj => by
    match j, hj with
    | 0, hj => simp at hj; subst hj; rw [show a.add 0 = a by unfold Addr.add; split <;> simp_all]; exact h0
    | 1, hj => simp at hj; subst hj; exact h1
    | 2, hj => simp at hj; subst hj; exact h2
    | 3, hj => simp at hj; subst hj; exact h3
    | n + 4, hj => simp at hj)
  have ha : Tryd.prog.underlying 46 = some (.array 4 5) := by kernel_rfl
  have hs : (Tryd.prog.info? 46).map (fun i => i.size) = some 4 := by kernel_rfl
  obtain ⟨i0, e0, e1⟩ := Option.map_eq_some_iff.1 hs
  simp only [List.length_cons, List.length_nil, Nat.reduceAdd] at hl
  simp [Instr.loadAt, Instr.sureAddr, loadVar, isAgg, run_underlying ha, sizeOf, typeInfo, e0, e1, hl]
theorem arr_slice (g : Nat) (W : World) : (Instr.sliceAt 46 (.pointer (some ⟨g, 0, none⟩)) none none none).run Tryd.prog W = .ok (.slice (some ⟨g, 0, none⟩) 4 4) W := by
  have ht : Tryd.prog.underlying 46 = some (.array 4 5) := by kernel_rfl
  have hs : (Tryd.prog.info? 5).map (fun i => i.size) = some 1 := by kernel_rfl
  obtain ⟨i0, e0, e1⟩ := Option.map_eq_some_iff.1 hs
  simp [Instr.sliceAt, Instr.sureAddr, Instr.sliceBounds, run_underlying ht, sizeOf, typeInfo, e0, e1, Addr.add]
theorem arr_of (A : Option Addr) (n c : Nat) (h : 4 ≤ n) (W : World) : (Instr.arrayAt 46 (.slice A n c)).run Tryd.prog W = .ok (.pointer A) W := by
  have ht : Tryd.prog.underlying 46 = some (.array 4 5) := by kernel_rfl
  simp [Instr.arrayAt, run_underlying ht, Nat.not_lt.2 h]
abbrev arr4v (q : List Int) : Array Value := #[.int .u8 (q.getD 0 0), .int .u8 (q.getD 1 0), .int .u8 (q.getD 2 0), .int .u8 (q.getD 3 0)]
set_option maxRecDepth 100000 in
theorem copy_net (g : Nat) (A : Option Addr) (on c : Nat) (ys : List Int) (W : World) (ty : TypeId) (hC : (Kd.int .u8).C W A on ys) (hon : on ≤ 4) (hg : W.heap[g]? = some (.cells (arr4v []) 46 (0, 0))) :
    ∃ W', (Builtin.copy_ #[24, 24] ty #[.slice (some ⟨g, 0, none⟩) 4 4, .slice A on c]).run Tryd.prog W = .ok (.int .i64 (on : Int)) W' ∧ W'.heap[g]? = some (.cells (arr4v ys) 46 (0, 0)) ∧ ∀ B w0, Below B w0 W → B ≤ g → Below B w0 W' := by
  have hu : Tryd.prog.underlying 24 = some (.slice 5) := by kernel_rfl
  have hs : (Tryd.prog.info? 5).map (·.size) = some 1 := by kernel_rfl
  have hR := Kd.reads_of_C (d := (0 : Int)) (h1 := fun _ => rfl) hC
  have hl := hR.1
  rcases Nat.eq_zero_or_pos on with h0 | hp
  · subst h0
    obtain rfl : ys = [] := List.length_eq_zero_iff.1 hl
    exact ⟨W, run_copy_none W 24 24 ty 5 _ _ 4 4 0 c hu hs rfl, hg, fun B w0 h _ => h⟩
  · obtain ⟨ad, rfl, hc⟩ := hR.2.2 hp
    have hr := run_copy_row (P := Tryd.prog) W 24 24 ty 5 g 0 4 4 ad on c (arr4v []) 46 (ys.map (Value.int .u8)) hu hs hg (by rw [List.length_map, hl]; exact (Nat.min_eq_left hon).symm) (fun j v hj => by
      rw [List.getElem?_map, Option.map_eq_some_iff] at hj
      obtain ⟨u, h1, rfl⟩ := hj
      obtain ⟨hjl, h2⟩ := List.getElem?_eq_some_iff.1 h1
      rw [hc j (by omega), List.getD_eq_getElem?_getD, h1]; rfl) (by rw [List.length_map, hl]; simp; omega) (fun v hv => by obtain ⟨u, _, rfl⟩ := List.mem_map.1 hv; rfl)
    refine ⟨_, hr.trans (by rw [List.length_map, hl]; rfl), ?_, fun B w0 h hB => below_setRow h hB _⟩
    · rw [setRow_heap W g (arr4v []) _ 46 (0, 0) hg]
      congr 2
      match ys, hl with
      | [a], h => subst h; rfl
      | [a, b], h => subst h; rfl
      | [a, b, c], h => subst h; rfl
      | [a, b, c, d], h => subst h; rfl
      | [], h => simp at h; omega
      | a :: b :: c :: d :: e :: r, h => simp at h; omega
theorem cells4 (A : Option Addr) (ys : List Int) (W : World) (hC : (Kd.int .u8).C W A 4 ys) : ∃ ad, A = some ad ∧ ∀ j, j < 4 → W.cell? (ad.add j) = some (.int .u8 (ys.getD j 0)) := by
  have hR := Kd.reads_of_C (d := (0 : Int)) (h1 := fun _ => rfl) hC
  obtain ⟨ad, rfl, hc⟩ := hR.2.2 (by omega)
  exact ⟨ad, rfl, fun j hj => hc j (by omega)⟩
theorem load_net (g : Nat) (q : List Int) (W : World) (h : W.heap[g]? = some (.cells (arr4v q) 46 (0, 0))) : (Instr.loadAt 46 (.pointer (some ⟨g, 0, none⟩))).run Tryd.prog W = .ok (.agg (arr4v q)) W :=
  load4 _ _ _ _ _ W ((blk_cell h 0).trans rfl) ((blk_cell h 1).trans rfl) ((blk_cell h 2).trans rfl) ((blk_cell h 3).trans rfl)
theorem load_at (ad : Addr) (q : List Int) (W : World) (h : ∀ j, j < 4 → W.cell? (ad.add j) = some (.int .u8 (q.getD j 0))) : (Instr.loadAt 46 (.pointer (some ad))).run Tryd.prog W = .ok (.agg (arr4v q)) W :=
  load4 _ _ _ _ _ W (by have := h 0 (by decide); rwa [show ad.add 0 = ad by unfold Addr.add; split <;> simp_all] at this) (h 1 (by decide)) (h 2 (by decide)) (h 3 (by decide))
end Go.Proofs.YtdpoknfidlekbaaDoor
end

section
namespace Go.Proofs.YtdpoknfidlekbaaDoor
open Go.Proofs.YtdpoknfidlekbaaDoorW.PrintLast
set_option linter.unusedVariables false

section
variable {F : Fence} {n : Nat} {P : Program} {ops : Array Oper} {Q : Exit → Act → World → Prop} {md : Region.Mode} {S : World → Prop} {ds : List Nat}

/-- It yields where S holds, and is about no function, in whatever world. -/
def YieldsIfI (P : Program) (ops : Array Oper) (S : World → Prop) (o : Oper) (v : Value) (a : Act) : Prop := YieldsIf P ops S o v a ∧ ∀ w, o.about P w a.eval = none
theorem YieldsIfI.at_ {i : Nat} {o : Oper} {v : Value} {a : Act} (hro : F.round = none) (hi : ops[i]? = some o) (hy : YieldsIfI P ops S o v a) {K : Act → World → Prop} {w : World} (hS : S w) (h : K (a.put o.dst v) w) : wpOpIn F n P ops Q i K a w := by
  unfold wpOpIn
  simp only [hi]
  have hab : ∀ f, o.about P w a.eval = some f → F.fn f := fun f hf => by rw [hy.2 w] at hf; cases hf
  rcases hy.1 with ⟨hw, hv⟩ | ⟨hw, rfl⟩
  · simp only [hw, if_true, Oper.wpIn, hro, Oper.semAt_none, hv w hS, Oper.uponIn]; exact ⟨hab, h⟩
  · simp only [hw, Bool.false_eq_true, if_false]; exact ⟨hab, h⟩
theorem YieldsIfI.same_ {o : Oper} {v : Value} {a a' : Act} (hy : YieldsIfI P ops S o v a) (he : execOp a'.eval o = execOp a.eval o)
    (hw : Region.wanted o (yielded ops a'.tmps) = Region.wanted o (yielded ops a.tmps)) (hb : ∀ w, o.about P w a'.eval = o.about P w a.eval) : YieldsIfI P ops S o v a' :=
  ⟨hy.1.of_same he hw, fun w => by rw [hb w]; exact hy.2 w⟩
theorem opIn_put {j : Nat} {oi oj : Oper} {v : Value} (hro : F.round = none) (hj : ops[j]? = some oj) (hap : oi.apart ops oj = true)
    (hsi : ∀ cs b, oi.op ≠ .select cs b) (hsj : ∀ cs b, oj.op ≠ .select cs b) (hQ : ∀ c a w, Q (.panic c) (a.put oi.dst v) w → Q (.panic c) a w) {K : Act → World → Prop} {a : Act} {w : World}
    (hy : YieldsIfI P ops S oi v a) (h : wpOpIn F n P ops Q j K (a.put oi.dst v) w) : wpOpIn F n P ops Q j (fun a' w' => YieldsIfI P ops S oi v a' ∧ K (a'.put oi.dst v) w') a w := by
  obtain ⟨h1, h2, h3⟩ := Oper.apart_spec hap
  have keep : ∀ (a : Act), YieldsIfI P ops S oi v a → ∀ u, YieldsIfI P ops S oi v (a.put oj.dst u) := fun a hy u =>
    hy.same_ (execOp_put oi hsi a oj.dst u h3) (wanted_put oi a oj.dst u h3) (fun w => about_put oi w a oj.dst u h3)
  have keepD : ∀ d, YieldsIfI P ops S oi v { a with defers := d :: a.defers } := fun d => hy.same_ rfl rfl (fun _ => rfl)
  unfold wpOpIn at *
  simp only [hj] at *
  rw [wanted_put oj a oi.dst v h1, about_put oj w a oi.dst v h1] at h
  split
  case isFalse hw =>
    simp only [hw] at h
    exact ⟨h.1, keep a hy _, by rw [← Act.put_comm a v undef h2]; exact h.2⟩
  case isTrue hw =>
    simp only [hw, if_true] at h
    unfold Oper.wpIn at *
    rw [about_put oj w a oi.dst v h1] at h
    obtain ⟨ha, h⟩ := h
    refine ⟨ha, ?_⟩
    rw [hro, Oper.semAt_none, execOp_put oj hsj a oi.dst v h1] at h
    rw [hro, Oper.semAt_none]
    generalize (execOp a.eval oj).run P w = r at *
    cases r with
    | halt x w' => cases x <;> simp only [Oper.uponIn] at h ⊢ <;> exact hQ _ _ _ h
    | ok x w' =>
      cases x <;> simp only [Oper.uponIn] at h ⊢
      case value u => exact ⟨keep a hy u, by rw [← Act.put_comm a v u h2]; exact h⟩
      case skip => exact ⟨keep a hy _, by rw [← Act.put_comm a v undef h2]; exact h⟩
      case defer d => exact ⟨keep _ (keepD d) _, by rw [← Act.put_comm _ v undef h2, ← Act.put_defers]; exact h⟩
      case row row args => exact ⟨h.1, RowsIn.mono h.2 fun u w'' he => ⟨keep a hy u, by rw [← Act.put_comm a v u h2]; exact he⟩⟩
      case enter f args =>
        refine ⟨h.1, CallsIn.mono h.2 fun e w'' he => ?_⟩
        cases e with
        | returned u => exact ⟨keep a hy u, by rw [← Act.put_comm a v u h2]; exact he⟩
        | panicked c => exact hQ _ _ _ he
        | outgrown => exact he
      case round l f tmps assign body =>
        refine ⟨h.1, RoundIn.mono h.2 fun e w'' he => ?_⟩
        cases e with
        | returned u => exact ⟨keep a hy u, by rw [← Act.put_comm a v u h2]; exact he⟩
        | panicked c => exact hQ _ _ _ he
        | outgrown => exact he

/-- Whatever order is picked, and S holds behind every operation but those of ds. -/
def wpAnyLI (F : Fence) (n : Nat) (P : Program) (md : Region.Mode) (ops : Array Oper) (Q : Exit → Act → World → Prop) (S : World → Prop) (ds : List Nat) : Nat → Array Bool → Act → World → Prop
  | 0, listed, a, w => Region.ready md ops listed = [] ∧ Q .normal a w
  | fuel + 1, listed, a, w =>
    (Region.ready md ops listed = [] → Q .normal a w) ∧
    ∀ i ∈ Region.ready md ops listed, wpOpIn F n P ops Q i (fun a' w' => (i ∉ ds → S w → S w') ∧ wpAnyLI F n P md ops Q S ds fuel (listed.setIfInBounds i true) a' w') a w
theorem wpAnyIn_of_LI : ∀ (fuel : Nat) (listed : Array Bool) (a : Act) (w : World), wpAnyLI F n P md ops Q S ds fuel listed a w → wpAnyIn F n P md ops Q fuel listed a w
  | 0, _, _, _, h => h
  | fuel + 1, _, _, _, h => ⟨h.1, fun i hi => wpOpIn_mono (fun a' w' h' => wpAnyIn_of_LI fuel _ a' w' h'.2) (h.2 i hi)⟩
theorem li_first {i : Nat} {oi : Oper} {v : Value} (hro : F.round = none) (hi : ops[i]? = some oi) (hsel : ∀ (j : Nat) (o : Oper) cs b, ops[j]? = some o → o.op ≠ .select cs b) (hQ : ∀ c a w, Q (.panic c) (a.put oi.dst v) w → Q (.panic c) a w) (m : Nat) :
    ∀ (fuel : Nat) (listed : Array Bool) (a : Act) (w : World),
      (∀ j oj, ops[j]? = some oj → j ≠ i → listed.getD j true = false → (∀ e ∈ oj.after, Region.binds md e = true → e.on ≠ i) → oi.apart ops oj = true) →
      ListedClosed md ops listed → (∀ d ∈ ds, listed.getD d true = false → Region.reachB md ops i m d = true) →
      i ∈ Region.ready md ops listed → YieldsIfI P ops S oi v a → S w →
      wpAnyLI F n P md ops Q S ds fuel (listed.setIfInBounds i true) (a.put oi.dst v) w → wpAnyLI F n P md ops Q S ds (fuel + 1) listed a w := by
  intro fuel
  induction fuel with
  | zero =>
    intro listed a w _ _ _ hr hy hS H
    refine ⟨fun h => (by rw [h] at hr; cases hr), fun j hj => ?_⟩
    by_cases hji : j = i
    · subst hji; exact hy.at_ hro hi hS ⟨fun _ h => h, H⟩
    · have := ready_mono hj hji
      rw [H.1] at this
      cases this
  | succ fuel ih =>
    intro listed a w hfree hc hd hr hy hS H
    refine ⟨fun h => (by rw [h] at hr; cases hr), fun j hj => ?_⟩
    by_cases hji : j = i
    · subst hji; exact hy.at_ hro hi hS ⟨fun _ h => h, H⟩
    · have h1 := H.2 j (ready_mono hj hji)
      obtain ⟨hjun, oj, hoj, hall⟩ := mem_ready.1 hj
      have hiun := (mem_ready.1 hr).1
      have hnot : ∀ e ∈ oj.after, Region.binds md e = true → e.on ≠ i := fun e he hb heq => by
        have h1 := hall e he hb
        rw [heq] at h1
        rcases Nat.lt_or_ge i listed.size with h' | h'
        · simp [h'] at hiun h1; rw [hiun] at h1; cases h1
        · simp [Array.getElem?_eq_none h'] at h1
      have hjd : j ∉ ds := fun hm => Region.reach_not_ready hc (hd j hm hjun) hiun hj
      have h2 := opIn_put hro hoj (hfree j oj hoj hji hjun hnot) (fun cs b => hsel i oi cs b hi) (fun cs b => hsel j oj cs b hoj) hQ hy h1
      have back : ∀ k, (listed.setIfInBounds j true).getD k true = false → listed.getD k true = false := fun k hun => by
        by_cases hjk : j = k
        · subst hjk; exact hjun
        · rwa [getD_set_ne true hjk] at hun
      refine wpOpIn_mono (fun a' w' h3 => ⟨h3.2.1, ih (listed.setIfInBounds j true) a' w' (fun k ok hk hki hun hno => hfree k ok hk hki (back k hun) hno) (hc.set hj) (fun d hm hun => hd d hm (back d hun)) (ready_mono hr (Ne.symm hji)) h3.1 (h3.2.1 hjd hS) ?_⟩) h2
      rw [Array.setIfInBounds_comm _ _ hji]
      exact h3.2.2

theorem startI_ {id m : Nat} {a : Act} {w : World} (l : Array Bool) (hm : P.follows .mixedOrders = true) (hn : ops.size = m) (hl : Array.replicate m false = l) (hS : S w.drew)
    (h : S w.drew → wpAnyLI F n P .any ops Q S ds m l a w.drew) : (Code.region id ops true).wpIn F n P Q a w := by
  subst hn
  subst hl
  exact wpIn_region_any hm (wpAnyIn_of_LI _ _ _ _ (h hS))
theorem takeI_ {i : Nat} {N : Option Tmp} {oi : Oper} {v : Value} {fuel : Nat} {l : Array Bool} {a : Act} {w : World} (hro : F.round = none) (l' : Array Bool) (hi : ops[i]? = some oi) (hN : oi.dst = N) (hc : takeB md ops ds l l' i = true)
    (hQ : ∀ c a w, Q (.panic c) (a.put oi.dst v) w → Q (.panic c) a w) (hy : YieldsIf P ops S oi v a) (hab : ∀ w, oi.about P w a.eval = none) (hS : S w) {a' : Act} (ha : a.put N v = a')
    (h : wpAnyLI F n P md ops Q S ds fuel l' a' w) : wpAnyLI F n P md ops Q S ds (fuel + 1) l a w := by
  subst ha
  subst hN
  simp only [takeB, Bool.and_eq_true, beq_iff_eq] at hc
  obtain ⟨⟨⟨⟨⟨h1, h2⟩, h3⟩, h4⟩, h5⟩, h6⟩ := hc
  subst h6
  exact li_first hro hi (Region.noSelect_spec h1) hQ ops.size fuel l a w (Region.free_spec hi h2) (Region.closedB_spec h4)
    (fun d hm hun => by have := List.all_eq_true.1 h5 d hm; rw [hun] at this; simpa using this) (by simpa using h3) ⟨hy, hab⟩ hS h
theorem oneI_ {i : Nat} {N : Option Tmp} {oi : Oper} {fuel : Nat} {l : Array Bool} {a : Act} {w : World} (l' : Array Bool) (hi : ops[i]? = some oi) (hN : oi.dst = N) (hc : readyB md ops l l' i = true) (hd : i ∉ ds) (hw : Region.wanted oi (yielded ops a.tmps) = true)
    (h : ∀ K : Act → World → Prop, Shut (∀ a' w', S w' → (S w' → wpAnyLI F n P md ops Q S ds fuel l' a' w') → K a' w') → Oper.wpIn F n P oi a w K Q) :
    wpAnyLI F n P md ops Q S ds (fuel + 1) l a w := by
  subst hN
  simp only [readyB, Bool.and_eq_true, beq_iff_eq] at hc
  obtain ⟨h1, h2⟩ := hc
  subst h2
  refine ⟨fun h0 => absurd (h1.symm.trans h0) (by simp), fun j hj => ?_⟩
  rw [h1] at hj
  obtain rfl : j = i := by simpa using hj
  refine wpOpIn_step hi fun K' hK => ?_
  rw [if_pos hw]
  exact h K' (fun a' w' hS hW => hK a' w' ⟨fun _ _ => hS, hW hS⟩)
/-- The last one: nothing is shown behind it. -/
theorem lastI_ {i : Nat} {N : Option Tmp} {oi : Oper} {fuel : Nat} {l : Array Bool} {a : Act} {w : World} (l' : Array Bool) (hi : ops[i]? = some oi) (hN : oi.dst = N) (hc : readyB md ops l l' i = true) (hd : i ∈ ds) (hw : Region.wanted oi (yielded ops a.tmps) = true)
    (h : ∀ K : Act → World → Prop, Shut (∀ a' w', wpAnyLI F n P md ops Q S ds fuel l' a' w' → K a' w') → Oper.wpIn F n P oi a w K Q) :
    wpAnyLI F n P md ops Q S ds (fuel + 1) l a w := by
  subst hN
  simp only [readyB, Bool.and_eq_true, beq_iff_eq] at hc
  obtain ⟨h1, h2⟩ := hc
  subst h2
  refine ⟨fun h0 => absurd (h1.symm.trans h0) (by simp), fun j hj => ?_⟩
  rw [h1] at hj
  obtain rfl : j = i := by simpa using hj
  refine wpOpIn_step hi fun K' hK => ?_
  rw [if_pos hw]
  exact h K' (fun a' w' hW => hK a' w' ⟨fun hn => absurd hd hn, hW⟩)
theorem doneI_ {l : Array Bool} {a : Act} {w : World} {m : Nat} (hr : (Region.ready md ops l == []) = true) (h : Q .normal a w) : wpAnyLI F n P md ops Q S ds m l a w := by
  have hr : Region.ready md ops l = [] := by simpa using hr
  cases m with
  | zero => exact ⟨hr, h⟩
  | succ m => exact ⟨fun _ => h, by rw [hr]; simp⟩
/-- Taken first, which yields whatever the world: no S is asked for. -/
theorem li_any {i : Nat} {oi : Oper} {v : Value} (hro : F.round = none) (hi : ops[i]? = some oi) (hsel : ∀ (j : Nat) (o : Oper) cs b, ops[j]? = some o → o.op ≠ .select cs b) (hQ : ∀ c a w, Q (.panic c) (a.put oi.dst v) w → Q (.panic c) a w) :
    ∀ (fuel : Nat) (listed : Array Bool) (a : Act) (w : World),
      (∀ j oj, ops[j]? = some oj → j ≠ i → listed.getD j true = false → (∀ e ∈ oj.after, Region.binds md e = true → e.on ≠ i) → oi.apart ops oj = true) →
      i ∈ Region.ready md ops listed → YieldsIfI P ops (fun _ => True) oi v a →
      wpAnyLI F n P md ops Q S ds fuel (listed.setIfInBounds i true) (a.put oi.dst v) w → wpAnyLI F n P md ops Q S ds (fuel + 1) listed a w := by
  intro fuel
  induction fuel with
  | zero =>
    intro listed a w _ hr hy H
    refine ⟨fun h => (by rw [h] at hr; cases hr), fun j hj => ?_⟩
    by_cases hji : j = i
    · subst hji; exact hy.at_ hro hi trivial ⟨fun _ h => h, H⟩
    · have := ready_mono hj hji
      rw [H.1] at this
      cases this
  | succ fuel ih =>
    intro listed a w hfree hr hy H
    refine ⟨fun h => (by rw [h] at hr; cases hr), fun j hj => ?_⟩
    by_cases hji : j = i
    · subst hji; exact hy.at_ hro hi trivial ⟨fun _ h => h, H⟩
    · have h1 := H.2 j (ready_mono hj hji)
      obtain ⟨hjun, oj, hoj, hall⟩ := mem_ready.1 hj
      have hiun := (mem_ready.1 hr).1
      have hnot : ∀ e ∈ oj.after, Region.binds md e = true → e.on ≠ i := fun e he hb heq => by
        have h1 := hall e he hb
        rw [heq] at h1
        rcases Nat.lt_or_ge i listed.size with h' | h'
        · simp [h'] at hiun h1; rw [hiun] at h1; cases h1
        · simp [Array.getElem?_eq_none h'] at h1
      have h2 := opIn_put hro hoj (hfree j oj hoj hji hjun hnot) (fun cs b => hsel i oi cs b hi) (fun cs b => hsel j oj cs b hoj) hQ hy h1
      have back : ∀ k, (listed.setIfInBounds j true).getD k true = false → listed.getD k true = false := fun k hun => by
        by_cases hjk : j = k
        · subst hjk; exact hjun
        · rwa [getD_set_ne true hjk] at hun
      refine wpOpIn_mono (fun a' w' h3 => ⟨h3.2.1, ih (listed.setIfInBounds j true) a' w' (fun k ok hk hki hun hno => hfree k ok hk hki (back k hun) hno) (ready_mono hr (Ne.symm hji)) h3.1 ?_⟩) h2
      rw [Array.setIfInBounds_comm _ _ hji]
      exact h3.2.2
theorem pureI_ {i : Nat} {N : Option Tmp} {oi : Oper} {v : Value} {fuel : Nat} {l : Array Bool} {a : Act} {w : World} (hro : F.round = none) (l' : Array Bool) (hi : ops[i]? = some oi) (hN : oi.dst = N) (hc : anyB md ops l l' i = true)
    (hQ : ∀ c a w, Q (.panic c) (a.put oi.dst v) w → Q (.panic c) a w) (hy : YieldsIf P ops (fun _ => True) oi v a) (hab : ∀ w, oi.about P w a.eval = none) {a' : Act} (ha : a.put N v = a')
    (h : wpAnyLI F n P md ops Q S ds fuel l' a' w) : wpAnyLI F n P md ops Q S ds (fuel + 1) l a w := by
  subst ha
  subst hN
  simp only [anyB, Bool.and_eq_true, beq_iff_eq] at hc
  obtain ⟨⟨⟨h1, h2⟩, h3⟩, h6⟩ := hc
  subst h6
  exact li_any hro hi (Region.noSelect_spec h1) hQ fuel l a w (Region.free_spec hi h2) (by simpa using h3) ⟨hy, hab⟩ h
theorem normI_ {fuel : Nat} {l : Array Bool} {a a' : Act} {w : World} (ha : a = a') (h : wpAnyLI F n P md ops Q S ds fuel l a' w) : wpAnyLI F n P md ops Q S ds fuel l a w := by
  subst ha
  exact h
/-- A call of a function, and of the loop's yield, as one operation at the wide fence. -/
theorem callI_ {oi : Oper} {N : Option Tmp} {a : Act} {w : World} {K : Act → World → Prop} {f : FuncId} {fn : Func} {xs : Array Operand} {ts : Array TypeId} (hf : P.funcs[f]? = some fn) (hname : (fn.name == "runtime.NumGoroutine") = false) (hb : fn.body.isSome = true) (args : Array Value)
    (hN : oi.dst = N) (hop : oi.op = .call { callee := .value (.func f), args := xs, argTypes := ts }) (hargs : xs.map a.eval = args)
    (h : Calls P f args w fun e w' => ∃ v, e = .returned v ∧ K (a.put N v) w') : Oper.wpIn Fence.wide n P oi a w K Q := by
  subst hN
  have he := enters_ hf hname hb args w
  refine ⟨fun _ _ => trivial, ?_⟩
  have hrun : (oi.semAt Fence.wide.round a.eval).run P w = .ok (.enter f args) w := by
    show (oi.semAt none a.eval).run P w = _
    rw [Oper.semAt_none]
    unfold execOp
    have hc : a.eval (.func f) = .func (.func f) #[] #[] := by first | rfl | (simp [Act.eval]; done)
    simp [hop, resolve, Deferred.ofValue, invoke, hc, hargs, he]
  rw [hrun]
  refine ⟨fun hd => by simp [Fence.wide] at hd, callsIn_wide.2 (h.mono ?_)⟩
  rintro e w' ⟨v, rfl, hk⟩
  exact hk
theorem yieldI_ {oi : Oper} {N : Option Tmp} {a : Act} {w : World} {K : Act → World → Prop} {l : Nat} {c : Operand} {xs : Array Operand} {ts : Array TypeId} (args : Array Value)
    (hN : oi.dst = N) (hop : oi.op = .call { callee := .value c, args := xs, argTypes := ts }) (hc : a.eval c = .func (.yield l) #[] #[]) (hargs : xs.map a.eval = args)
    (h : YieldAt Fence.wide n P l args w fun e w' => ∃ v, e = .returned v ∧ K (a.put N v) w') : Oper.wpIn Fence.wide (n + 1) P oi a w K Q := by
  subst hN
  obtain ⟨fn, tmps, assign, body, hy, hR⟩ := h
  refine ⟨fun _ _ => trivial, ?_⟩
  have hrun : (oi.semAt Fence.wide.round a.eval).run P w = .ok (.round l fn tmps assign body) w := by
    show (oi.semAt none a.eval).run P w = _
    rw [Oper.semAt_none]
    unfold execOp
    simp [hop, resolve, Deferred.ofValue, invoke, hc, hargs, hy]
  rw [hrun]
  refine ⟨fun hd => by simp [Fence.wide] at hd, hR.mono ?_⟩
  rintro e w' ⟨v, rfl, hk⟩
  exact hk
end
end Go.Proofs.YtdpoknfidlekbaaDoor
end

section
namespace Go.Proofs.YtdpoknfidlekbaaDoor
open Go.RowKit Go.Proofs.YtdpoknfidlekbaaDoor.Pr Go.Proofs.YtdpoknfidlekbaaDoorW.PrintWords Go.Proofs.YtdpoknfidlekbaaDoorW.PrintLast Go.Proofs.YtdpoknfidlekbaaDoorW.PrintMore
attribute [local go_sem] max2_int min2_int max_two min_two max_three min_three max_four min_four
set_option linter.unusedVariables false
set_option linter.unusedSimpArgs false

/-! ### what is handed on -/
def rtRd (x : Int) (r : List Int) : RtE := ⟨ofR (r.take (rtOct x)), x, ofR ((r.drop (rtOct x)).take 4)⟩
def rdGo (l : List Int) (pre : List RtE) : Option (List RtE) :=
  match l with
  | [] => some pre
  | x :: r => if 32 < x ∨ r.length < rtOct x + 4 then none else if rtRight (rtRd x r) = true then rdGo (r.drop (rtOct x + 4)) (pre ++ [rtRd x r]) else none
termination_by l.length
decreasing_by simp only [List.length_cons, List.length_drop]; omega
theorem rdGo_nil {pre : List RtE} : rdGo [] pre = some pre := by rw [rdGo.eq_def]
theorem rdGo_short {x : Int} {r : List Int} {pre : List RtE} (h : 32 < x ∨ r.length < rtOct x + 4) : rdGo (x :: r) pre = none := by rw [rdGo.eq_def]; dsimp only; rw [if_pos h]
theorem rdGo_wrong {x : Int} {r : List Int} {pre : List RtE} (h1 : ¬ (32 < x ∨ r.length < rtOct x + 4)) (h2 : rtRight (rtRd x r) = false) : rdGo (x :: r) pre = none := by rw [rdGo.eq_def]; dsimp only; rw [if_neg h1, h2]; rfl
theorem rdGo_step {x : Int} {r : List Int} {pre : List RtE} (h1 : ¬ (32 < x ∨ r.length < rtOct x + 4)) (h2 : rtRight (rtRd x r) = true) : rdGo (x :: r) pre = rdGo (r.drop (rtOct x + 4)) (pre ++ [rtRd x r]) := by
  rw [rdGo.eq_def]; dsimp only; rw [if_neg h1, if_pos h2]
theorem oct_eqB (b : Int) (h0 : 0 ≤ b) (h1 : b ≤ 255) : route_octets.f b = some (rtOct b : Int) := by
  unfold route_octets.f rtOct
  have e1 : wrap64 (b + 7) = b + 7 := by unfold wrap64; omega
  simp only [e1]
  rw [Int.tdiv_eq_ediv_of_nonneg (by omega)]
  congr 1
  unfold wrap64; omega
theorem rt_boxed_blw {W W' : World} {B : Nat} {t : TypeId} {v : Value} (h : Boxed W B t v) (hb : Below W.heap.size W W') : Boxed W' B t v := (hb.block B h.lt).trans h
abbrev rtV (x : RtE) : Value := .agg #[.int .u32 x.f0, .int .i64 x.f1, .int .u32 x.f2]

set_option maxHeartbeats 4000000 in
set_option maxRecDepth 100000 in
theorem routes1_calls (b : List Int) (w0 : World) (hbytes : ∀ x ∈ b, 0 ≤ x ∧ x ≤ 255) (hlen : b.length < 1099511627776) (n l Bn : Nat) (J : List RtE → World → Prop) (End : World → Prop) (hBn : w0.heap.size ≤ Bn)
    (hJb : ∀ pre W, J pre W → Below w0.heap.size w0 W)
    (hJg : ∀ pre W W', J pre W → Below W.heap.size W W' → J pre W')
    (hJs : ∀ pre W v u, J pre W → Boxed W Bn 24 v → J pre (W.setCell ⟨Bn, 0, none⟩ u))
    (hY1 : ∀ pre W x bv, J pre W → pre.length < b.length → Boxed W Bn 24 bv →
      YieldAt Fence.wide n Tryd.prog l #[rtV x, .bool true] W fun e W' => e = .returned (.bool true) ∧ J (pre ++ [x]) W' ∧ Boxed W' Bn 24 bv)
    (hY2 : ∀ pre W x, J pre W → rdGo b [] = none →
      YieldAt Fence.wide n Tryd.prog l #[rtV x, .bool false] W fun e W' => e = .returned (.bool false) ∧ End W')
    (W : World) (h0 : J [] W) (A0 : Option Addr) (c : Nat) (hC : (Kd.int .u8).C w0 A0 b.length b) (hc : b.length ≤ c) (hBx : Boxed W Bn 24 (.slice A0 b.length c)) :
    Calls Tryd.prog 40 #[.func (.yield l) #[] #[], .pointer (some ⟨Bn, 0, none⟩)] W fun e W' => (∃ v, e = .returned v) ∧ ((∃ pre, rdGo b [] = some pre ∧ J pre W') ∨ (rdGo b [] = none ∧ End W')) := by
  have hu32 := Tryd.underlying44
  have HC := Lib.hid hC
  have HBY := Lib.hid hbytes
  have HY1 := Lib.hid hY1
  have HY2 := Lib.hid hY2
  have HJB := Lib.hid hJb
  have HJG := Lib.hid hJg
  have HJS := Lib.hid hJs
  have HJ0 := Lib.hid h0
  have HBX0 := Lib.hid hBx
  clear hC hbytes hY1 hY2 hJb hJg hJs h0 hBx
  go_enter Tryd.func40, Tryd.ntmps40
  go_wp2_with fail
  go_loopg [] (b.length) (fun kq wr => ∃ (l' : List Int) (A' : Option Addr) (c' : Nat) (pre : List RtE), Hid (l'.length = kq) ∧ Hid (l'.length ≤ c') ∧ Hid (l'.length + pre.length ≤ b.length) ∧ Hid (∀ x ∈ l', 0 ≤ x ∧ x ≤ 255) ∧ Hid ((Kd.int .u8).C w0 A' l'.length l') ∧
      Hid (Boxed wr Bn 24 (.slice A' l'.length c')) ∧ Hid (J pre wr) ∧ Hid (rdGo l' pre = rdGo b []))
  case atStart => exact ⟨b, A0, c, [], rfl, hc, Lib.hid (by simp), HBY, HC, HBX0, HJ0, rfl⟩
  case round =>
    obtain ⟨l', A', c', pre, HK, HCL, HLP, HBY', HC', HBX, HJ, HP⟩ := hrel
    clear HC HBX0 HJ0
    have y1 := HBX.out.cell
    have z1 := HBX.out.frozen
    cases l' with
    | nil =>
      have HR := Lib.hid (HP.out.symm.trans rdGo_nil)
      go_wp2_with fail
      go_end0
      exact ⟨⟨_, rfl⟩, Or.inl ⟨pre, HR.out, HJ.out⟩⟩
    | cons x r =>
      have hx := HBY'.out x (by simp)
      obtain ⟨ad, rfl, x0⟩ := Kd.at_int HC'.out 0 (by omega) (by simp only [List.length_cons]; omega)
      have x0w : w0.cell? ad = some (.int .u8 x) := x0
      have HX0 := Lib.hid x0w
      have x0' := ((HJB.out _ _ HJ.out).cell (World.block_lt_of_cell? w0 _ x0w)).trans x0w
      obtain ⟨i0, hi0, _, hsz, _⟩ := info_parts info5
      obtain ⟨nn, hnn⟩ : ∃ nn, nn = (x :: r).length := ⟨_, rfl⟩
      have hn2 : nn = r.length + 1 := hnn
      have HN2 := Lib.hid hn2
      have hk := HK.out
      rw [← hnn] at hk y1
      have HBX1 : Hid (Boxed wr Bn 24 (.slice (some ad) nn c')) := by show Boxed _ _ _ _; rw [hnn]; exact HBX.out
      have p0 : ((nn : Int) > 0) = True := eq_true (by omega)
      have p1 : (0 < nn) = True := eq_true (by omega)
      have e6 : IntKind.i64.wrap x = x := IntWalk.i64_in _ (by omega)
      have HXB := Lib.hid hx
      clear x0 x0w hnn hn2 hk hx
      go_upto_region 2 with fail
      obtain ⟨gx, hgx⟩ : ∃ g, wr.heap.size = g := ⟨_, rfl⟩
      obtain ⟨W1, hW1⟩ : ∃ W, wr.alloc (.cells #[.int .u32 0, .int .i64 x, .int .u32 0] 44) = W := ⟨_, rfl⟩
      have BK1 : Hid (W1.heap[gx]? = some (.cells #[.int .u32 0, .int .i64 x, .int .u32 0] 44 (0, 0))) := by show _ = _; rw [← hW1, ← hgx]; exact blk_new _ _
      have HGX : Hid (wr.heap.size ≤ gx) := Lib.hid (by omega)
      have HB1 : Hid (Below wr.heap.size wr W1) := by show Below _ _ _; rw [← hW1]; exact below_alloc (Below.refl _ _) _
      rw [hgx, hW1]
      clear hW1 hgx y1 z1 x0' e6
      have u1 := (blk_cell BK1.out 1).trans rfl
      have h255 := HXB.out
      obtain ⟨on, hon⟩ : ∃ o, rtOct x = o := ⟨_, rfl⟩
      have hon40 : on ≤ 40 := by rw [← hon]; unfold rtOct; omega
      have HOC := Lib.hid (oct_eqB x h255.1 h255.2)
      rw [hon] at HOC
      obtain ⟨m1, hm1⟩ : ∃ m1 : Int, 1 + (on : Int) = m1 := ⟨_, rfl⟩
      obtain ⟨m2, hm2⟩ : ∃ m2 : Int, m1 + 4 = m2 := ⟨_, rfl⟩
      have e9 : IntKind.i64.wrap (1 + (on : Int)) = m1 := by rw [IntWalk.i64_in _ (by omega)]; exact hm1
      have e10 : IntKind.i64.wrap (m1 + 4) = m2 := by rw [IntWalk.i64_in _ (by omega)]; exact hm2
      have HON := Lib.hid hon
      have HM1 := Lib.hid hm1
      have HM2 := Lib.hid hm2
      have HON40 := Lib.hid hon40
      clear hon hm1 hm2 h255 hon40
      go_wp2_with fail
      refine (route_octets.calls x (on : Int) _ HOC.out).mono ?_
      rintro e W' ⟨rfl, m, rfl⟩
      obtain ⟨W2, hW2⟩ : ∃ W, W1.drewN m = W := ⟨_, rfl⟩
      have BK2 : Hid (W2.heap[gx]? = some (.cells #[.int .u32 0, .int .i64 x, .int .u32 0] 44 (0, 0))) := by show _ = _; rw [← hW2]; exact blk_drewN BK1.out m
      have HB2 : Hid (Below wr.heap.size wr W2) := by show Below _ _ _; rw [← hW2]; exact pw_below_drewN HB1.out m
      rw [hW2]
      clear hW2 u1 BK1 HB1
      have HBX2 := Lib.hid (rt_boxed_blw HBX1.out HB2.out)
      have HJ2 := Lib.hid (HJG.out _ _ _ HJ.out HB2.out)
      have u1 := (blk_cell BK2.out 1).trans rfl
      have y1 := HBX2.out.cell
      have hn2 := HN2.out
      by_cases hshort : 32 < x ∨ r.length < on + 4
      · have HR : Hid (rdGo b [] = none) := Lib.hid (HP.out.symm.trans (rdGo_short (by rw [HON.out]; exact hshort)))
        by_cases h32 : 32 < x
        · have p2 : (x > 32) = True := eq_true h32
          have p3 : (32 < x) = True := eq_true h32
          clear h32 hshort hn2
          go_upto_region 4 with fail
          have u0 := (blk_cell BK2.out 0).trans rfl
          have u2 := (blk_cell BK2.out 2).trans rfl
          refine (wpIn_wide (n := n + 1)).1 ?_
          obtain ⟨fn, tmps, assign, body, hy, hR⟩ := HY2.out pre W2 ⟨0, x, 0⟩ HJ2.out HR.out
          dsimp only [rtV] at hy
          gi_wp2_with fail
          refine hR.mono ?_
          rintro e W3 ⟨rfl, hE⟩
          gi_wp2_with fail
          go_wp2_with fail
          refine bodyPost_ret (results_none rfl _ _ _) rfl ⟨⟨_, rfl⟩, Or.inr ⟨HR.out, hE⟩⟩
        · have p2 : (x > 32) = False := eq_false h32
          have p3 : (32 < x) = False := eq_false h32
          have p4 : ((nn : Int) < m2) = True := eq_true (by have := HM1.out; have := HM2.out; rcases hshort with h | h <;> omega)
          clear h32 hshort hn2
          go_upto_region 4 with fail
          have u0 := (blk_cell BK2.out 0).trans rfl
          have u2 := (blk_cell BK2.out 2).trans rfl
          refine (wpIn_wide (n := n + 1)).1 ?_
          obtain ⟨fn, tmps, assign, body, hy, hR⟩ := HY2.out pre W2 ⟨0, x, 0⟩ HJ2.out HR.out
          dsimp only [rtV] at hy
          gi_wp2_with fail
          refine hR.mono ?_
          rintro e W3 ⟨rfl, hE⟩
          gi_wp2_with fail
          go_wp2_with fail
          refine bodyPost_ret (results_none rfl _ _ _) rfl ⟨⟨_, rfl⟩, Or.inr ⟨HR.out, hE⟩⟩
      · have p2 : (x > 32) = False := eq_false (by omega)
        have p3 : (32 < x) = False := eq_false (by omega)
        have p4 : ((nn : Int) < m2) = False := eq_false (by have := HM1.out; have := HM2.out; omega)
        have HGD := Lib.hid hshort
        clear hshort hn2
        go_upto_region 6 with fail
        obtain ⟨gn, hgn⟩ : ∃ g, W2.heap.size = g := ⟨_, rfl⟩
        obtain ⟨W3, hW3⟩ : ∃ W, W2.alloc (.cells #[.int .u8 0, .int .u8 0, .int .u8 0, .int .u8 0] 46) = W := ⟨_, rfl⟩
        have BN3 : Hid (W3.heap[gn]? = some (.cells (arr4v []) 46 (0, 0))) := by show _ = _; rw [← hW3, ← hgn]; exact blk_new _ _
        have hb3 : Below W2.heap.size W2 W3 := by rw [← hW3]; exact below_alloc (Below.refl _ _) _
        have BK3 : Hid (W3.heap[gx]? = some (.cells #[.int .u32 0, .int .i64 x, .int .u32 0] 44 (0, 0))) := (hb3.block gx (blk_lt BK2.out)).trans BK2.out
        have HB3 : Hid (Below wr.heap.size wr W3) := HB2.out.trans (hb3.mono HB2.out.size)
        have HGN : Hid (wr.heap.size ≤ gn) := by have := HB2.out.size; show _ ≤ _; omega
        have HLT : Hid (gx < gn) := by have := blk_lt BK2.out; show _ < _; omega
        have HNE : Hid (gx ≠ gn) := by have := blk_lt BK2.out; show _ ≠ _; omega
        rw [hgn, hW3]
        clear hW3 hgn hb3 u1 y1 BK2 HB2 HBX2 HJ2
        have HBX3 := Lib.hid (rt_boxed_blw HBX1.out HB3.out)
        have y1 := HBX3.out.cell
        have hgd := HGD.out
        have hm1 := HM1.out
        have hm2 := HM2.out
        have hn2 := HN2.out
        have hcl := HCL.out
        have hlp := HLP.out
        have hon40 := HON40.out
        have h32 : x ≤ 32 := by omega
        have hon4 : on ≤ 4 := by rw [← HON.out]; unfold rtOct; have := HXB.out; omega
        have hnl : (x :: r).length = nn := hn2.symm
        obtain ⟨A4, hcut4, hA4, _⟩ := print_mid_of (P := Tryd.prog) (Value.int .u8) 0 24 5 .i64 .i64 Tryd.underlying24 hi0 hsz (some ad) c' (x :: r) 1 m1 (by omega) (by omega) (by rw [hnl]; omega) hcl
        have e4 : ((x :: r).take m1.toNat).drop (1 : Int).toNat = r.take on := by rw [show m1.toNat = on + 1 from by omega]; rfl
        have l4 : (r.take on).length = on := by rw [List.length_take]; omega
        rw [e4] at hcut4 hA4
        rw [l4, hnl, show (1 : Int).toNat = 1 from rfl] at hcut4
        rw [l4] at hA4
        have HC4 := Lib.hid (fun W (hW : Below w0.heap.size w0 W) => Kd.C_of_reads (d := (0 : Int)) (h1 := fun _ => rfl) (hA4 _ (Kd.reads_of_C (Kd.C_below HC'.out hW))))
        obtain ⟨A6, hcut6, hA6, _⟩ := print_mid_of (P := Tryd.prog) (Value.int .u8) 0 24 5 .i64 .i64 Tryd.underlying24 hi0 hsz (some ad) c' (x :: r) m1 m2 (by omega) (by omega) (by rw [hnl]; omega) hcl
        have e6 : ((x :: r).take m2.toNat).drop m1.toNat = (r.drop on).take 4 := by
          rw [show m1.toNat = on + 1 from by omega, show m2.toNat = on + 4 + 1 from by omega, List.take_succ_cons, List.drop_succ_cons, List.drop_take, show on + 4 - on = 4 from by omega]
        have l6 : ((r.drop on).take 4).length = 4 := by rw [List.length_take, List.length_drop]; omega
        rw [e6] at hcut6 hA6
        rw [l6, hnl] at hcut6
        rw [l6] at hA6
        obtain ⟨c6, hc6⟩ : ∃ c6, c' - m1.toNat = c6 := ⟨_, rfl⟩
        rw [hc6] at hcut6
        obtain ⟨y4, hy4⟩ : ∃ y, r.take on = y := ⟨_, rfl⟩
        obtain ⟨y6, hy6⟩ : ∃ y, (r.drop on).take 4 = y := ⟨_, rfl⟩
        rw [hy4] at HC4
        rw [hy6] at hA6
        have hc0 := Kd.C_of_reads (d := (0 : Int)) (h1 := fun _ => rfl) (hA6 _ (Kd.reads_of_C HC'.out))
        obtain ⟨ad6, rfl, h06⟩ := cells4 A6 y6 w0 hc0
        have H06 := Lib.hid h06
        have r3 := cut_from (P := Tryd.prog) 24 5 .i64 Tryd.underlying24 hi0 1 hsz (some ad) nn c' m2 (by omega) (by omega)
        have C5 := Kd.C_drop (c := c') (m := on + 5) HC'.out (by rw [hnl]; omega) hcl
        rw [show (Kd.int .u8).sz = 1 from rfl, Nat.mul_one, show on + 5 = on + 4 + 1 from rfl, List.drop_succ_cons] at C5
        obtain ⟨s5, hs5⟩ : ∃ s5, s5 = r.drop (on + 4) := ⟨_, rfl⟩
        have hs5l : s5.length = r.length - (on + 4) := by rw [hs5, List.length_drop]
        rw [← hs5] at C5
        rw [show m2.toNat = on + 4 + 1 from by omega, Nat.mul_one, show nn - (on + 4 + 1) = s5.length from by omega] at r3
        obtain ⟨A5, hA5⟩ : ∃ A5, A5 = (if c' = on + 4 + 1 then some ad else (some ad).map (·.add (on + 4 + 1))) := ⟨_, rfl⟩
        obtain ⟨c5, hc5⟩ : ∃ c5, c5 = c' - (on + 4 + 1) := ⟨_, rfl⟩
        rw [← hA5, ← hc5] at r3
        rw [← hA5] at C5
        have HC5 := Lib.hid C5
        have HR3 := Lib.hid r3
        have HCUT6 := Lib.hid hcut6
        have HL5 : Hid (s5.length ≤ c5) := by show _ ≤ _; omega
        have HLP5 : Hid (s5.length + (pre.length + 1) ≤ b.length) := by show _ ≤ _; omega
        have HPL : Hid (pre.length < b.length) := by show _ < _; omega
        have HM5 : Hid (s5.length < gk) := by have h1 := HK.out; show _ < _; omega
        have HS5 := Lib.hid hs5
        have HY4 := Lib.hid hy4
        have HY6 := Lib.hid hy6
        have HBR : Hid (∀ y ∈ r, 0 ≤ y ∧ y ≤ 255) := fun y hy => HBY'.out y (List.mem_cons_of_mem _ hy)
        have HOF : Hid (∀ (q : List Int), (∀ y ∈ q, 0 ≤ y ∧ y ≤ 255) → ∀ j, 0 ≤ q.getD j 0 ∧ q.getD j 0 ≤ 255) := by
          intro q hq j
          rw [List.getD_eq_getElem?_getD]
          cases hj : q[j]? with
          | none => simp
          | some v => exact hq v (List.mem_of_getElem? hj)
        have HQ4 : Hid (∀ j, 0 ≤ y4.getD j 0 ∧ y4.getD j 0 ≤ 255) := HOF.out y4 (fun y hy => HBR.out y (List.mem_of_mem_take (hy4 ▸ hy)))
        have HQ6 : Hid (∀ j, 0 ≤ y6.getD j 0 ∧ y6.getD j 0 ≤ 255) := HOF.out y6 (fun y hy => HBR.out y (List.mem_of_mem_drop (List.mem_of_mem_take (hy6 ▸ hy))))
        have HO4 := Lib.hid hon4
        have hoc4 := fun W => rof_calls _ _ _ _ W (HQ4.out 0) (HQ4.out 1) (HQ4.out 2) (HQ4.out 3)
        have hoc6 := fun W => rof_calls _ _ _ _ W (HQ6.out 0) (HQ6.out 1) (HQ6.out 2) (HQ6.out 3)
        obtain ⟨v4, hv4⟩ : ∃ v, ofR y4 = v := ⟨_, rfl⟩
        obtain ⟨v6, hv6⟩ : ∃ v, ofR y6 = v := ⟨_, rfl⟩
        simp only [show ofR [y4.getD 0 0, y4.getD 1 0, y4.getD 2 0, y4.getD 3 0] = v4 from hv4] at hoc4
        simp only [show ofR [y6.getD 0 0, y6.getD 1 0, y6.getD 2 0, y6.getD 3 0] = v6 from hv6] at hoc6
        have HOC4 := Lib.hid hoc4
        have HOC6 := Lib.hid hoc6
        have HXR : Hid (rtRd x r = ⟨v4, x, v6⟩) := by show _ = _; unfold rtRd; rw [HON.out, hy4, hy6, hv4, hv6]
        clear hoc4 hoc6 hv4 hv6
        have hsl := arr_slice gn
        clear hgd hm1 hm2 hn2 hcl hlp hon40 h32 hon4 hnl e4 l4 e6 l6 hc6 hy4 hy6 hc0 h06 r3 C5 hs5 hs5l hA5 hc5 HOF hcut6
        go_wp2_with fail
        refine start_ (n := 5) (S := fun w' => w'.cell? ⟨Bn, 0, none⟩ = some (.slice (some ad) nn c')) (ds := [4]) #[false, false, false, false, false] (by kernel_rfl) rfl rfl y1 (fun hHeld => ?_)
        refine pure_ (i := 0) (N := some 31) (v := .slice (some ⟨gn, 0, none⟩) 4 4) (a' := ?_) #[true, false, false, false, false] rfl rfl (by kernel_rfl) (fun _ _ _ h => h) (Or.inl ⟨by rfl, ?_⟩) ?_ ?_
        · intro w'
          go_simp
          try (with_reducible rfl)
        rotate_left
        · simp only [Act.put, List.setIfInBounds_toArray, List.set_cons_zero, List.set_cons_succ, i64_w, i32_w]
          rfl
        refine pure_ (i := 2) (N := some 33) (v := .int .i64 m1) (a' := ?_) #[true, false, true, false, false] rfl rfl (by kernel_rfl) (fun _ _ _ h => h) (Or.inl ⟨by rfl, ?_⟩) ?_ ?_
        · intro w'
          go_simp
          try (with_reducible rfl)
        rotate_left
        · simp only [Act.put, List.setIfInBounds_toArray, List.set_cons_zero, List.set_cons_succ, i64_w, i32_w]
          rfl
        refine take_ (i := 1) (N := some 32) (v := .slice (some ad) nn c') (a' := ?_) #[true, true, true, false, false] rfl rfl (by kernel_rfl) (fun _ _ _ h => h) (Or.inl ⟨by rfl, ?_⟩) hHeld ?_ ?_
        · rintro w' s0
          go_simp
          try (with_reducible rfl)
        rotate_left
        · simp only [Act.put, List.setIfInBounds_toArray, List.set_cons_zero, List.set_cons_succ, i64_w, i32_w]
          rfl
        refine pure_ (i := 3) (N := some 34) (v := .slice A4 on (c' - 1)) (a' := ?_) #[true, true, true, true, false] rfl rfl (by kernel_rfl) (fun _ _ _ h => h) (Or.inl ⟨by rfl, ?_⟩) ?_ ?_
        · intro w'
          go_simp
          try (with_reducible rfl)
        rotate_left
        · simp only [Act.put, List.setIfInBounds_toArray, List.set_cons_zero, List.set_cons_succ, i64_w, i32_w]
          rfl
        refine last_ (i := 4) (N := some 35) #[true, true, true, true, true] rfl rfl (by kernel_rfl) (by decide) (fun K hK => ?_)
        obtain ⟨W4, hcp, bn4, hbl⟩ := copy_net gn A4 on (c' - 1) y4 W3.drew 3 (HC4.out _ (HJB.out _ _ (HJG.out _ _ _ HJ.out (below_drew HB3.out)))) HO4.out BN3.out
        go_simp
        refine hK.out _ _ ?_
        clear hK K hcp
        refine done_ (by kernel_rfl) ?_
        have hlt : gx < gn := HLT.out
        have hb34 : Below gn W3 W4 := hbl gn W3 (below_drew (Below.refl _ _)) (Nat.le_refl _)
        have BK4 : Hid (W4.heap[gx]? = some (.cells #[.int .u32 0, .int .i64 x, .int .u32 0] 44 (0, 0))) := (hb34.block gx hlt).trans BK3.out
        have HB4 : Hid (Below wr.heap.size wr W4) := hbl _ _ (below_drew HB3.out) HGN.out
        have BN4 : Hid (W4.heap[gn]? = some (.cells (arr4v y4) 46 (0, 0))) := bn4
        have HBX4 := Lib.hid (rt_boxed_blw HBX1.out HB4.out)
        have H46' : Hid (∀ W, Below wr.heap.size wr W → ∀ j, j < 4 → W.cell? (ad6.add j) = some (.int .u8 (y6.getD j 0))) := fun W hW j hj => ((HJB.out _ _ (HJG.out _ _ _ HJ.out hW)).cell (World.block_lt_of_cell? w0 _ (H06.out j hj))).trans (H06.out j hj)
        have H46 : Hid (∀ W, Below wr.heap.size wr W → W.cell? ad6 = some (.int .u8 (y6.getD 0 0))) := fun W hW => by have := H46'.out W hW 0 (by decide); rwa [show ad6.add 0 = ad6 by unfold Addr.add; split <;> simp_all] at this
        clear hlt hb34 hbl bn4 BK3 BN3 HB3 HBX3 y1 hsl hcut4
        have y1 := HBX4.out.cell
        have hcut6 := HCUT6.out
        have harr := arr_of (some ad6) 4 c6 (Nat.le_refl _)
        go_wp2_with fail
        refine start_ (n := 14) (S := fun w' => w'.cell? ⟨Bn, 0, none⟩ = some (.slice (some ad) nn c') ∧ w'.cell? ⟨gn, 0, none⟩ = some (.int .u8 (y4.getD 0 0)) ∧ w'.cell? ⟨gn, 1, none⟩ = some (.int .u8 (y4.getD 1 0)) ∧ w'.cell? ⟨gn, 2, none⟩ = some (.int .u8 (y4.getD 2 0)) ∧ w'.cell? ⟨gn, 3, none⟩ = some (.int .u8 (y4.getD 3 0)) ∧ w'.cell? ad6 = some (.int .u8 (y6.getD 0 0)) ∧ w'.cell? ⟨ad6.block, ad6.off + 1, none⟩ = some (.int .u8 (y6.getD 1 0)) ∧ w'.cell? ⟨ad6.block, ad6.off + 2, none⟩ = some (.int .u8 (y6.getD 2 0)) ∧ w'.cell? ⟨ad6.block, ad6.off + 3, none⟩ = some (.int .u8 (y6.getD 3 0))) (ds := [11, 13]) #[false, false, false, false, false, false, false, false, false, false, false, false, false, false] (by kernel_rfl) rfl rfl ⟨y1, (blk_cell BN4.out 0).trans rfl, (blk_cell BN4.out 1).trans rfl, (blk_cell BN4.out 2).trans rfl, (blk_cell BN4.out 3).trans rfl, H46.out _ (below_drew HB4.out), H46'.out _ (below_drew HB4.out) 1 (by decide), H46'.out _ (below_drew HB4.out) 2 (by decide), H46'.out _ (below_drew HB4.out) 3 (by decide)⟩ (fun hHeld => ?_)
        obtain ⟨W5, hW5⟩ : ∃ W, W4.drew = W := ⟨_, rfl⟩
        have BK5 : Hid (W5.heap[gx]? = some (.cells #[.int .u32 0, .int .i64 x, .int .u32 0] 44 (0, 0))) := by show _ = _; rw [← hW5]; exact BK4.out
        have BN5 : Hid (W5.heap[gn]? = some (.cells (arr4v y4) 46 (0, 0))) := by show _ = _; rw [← hW5]; exact BN4.out
        have HB5 : Hid (Below wr.heap.size wr W5) := by show Below _ _ _; rw [← hW5]; exact below_drew HB4.out
        rw [hW5] at hHeld ⊢
        clear hW5 BK4 BN4 HB4 HBX4 y1
        refine pure_ (i := 3) (N := some 39) (v := .int .i64 m1) (a' := ?_) #[false, false, false, true, false, false, false, false, false, false, false, false, false, false] rfl rfl (by kernel_rfl) (fun _ _ _ h => h) (Or.inl ⟨by rfl, ?_⟩) ?_ ?_
        · intro w'
          go_simp
          try (with_reducible rfl)
        rotate_left
        · simp only [Act.put, List.setIfInBounds_toArray, List.set_cons_zero, List.set_cons_succ, i64_w, i32_w]
          rfl
        refine pure_ (i := 4) (N := some 40) (v := .int .i64 m1) (a' := ?_) #[false, false, false, true, true, false, false, false, false, false, false, false, false, false] rfl rfl (by kernel_rfl) (fun _ _ _ h => h) (Or.inl ⟨by rfl, ?_⟩) ?_ ?_
        · intro w'
          go_simp
          try (with_reducible rfl)
        rotate_left
        · simp only [Act.put, List.setIfInBounds_toArray, List.set_cons_zero, List.set_cons_succ, i64_w, i32_w]
          rfl
        refine pure_ (i := 5) (N := some 41) (v := .int .i64 m2) (a' := ?_) #[false, false, false, true, true, true, false, false, false, false, false, false, false, false] rfl rfl (by kernel_rfl) (fun _ _ _ h => h) (Or.inl ⟨by rfl, ?_⟩) ?_ ?_
        · intro w'
          go_simp
          try (with_reducible rfl)
        rotate_left
        · simp only [Act.put, List.setIfInBounds_toArray, List.set_cons_zero, List.set_cons_succ, i64_w, i32_w]
          rfl
        refine take_ (i := 0) (N := some 36) (v := .agg (arr4v y4)) (a' := ?_) #[true, false, false, true, true, true, false, false, false, false, false, false, false, false] rfl rfl (by kernel_rfl) (fun _ _ _ h => h) (Or.inl ⟨by rfl, ?_⟩) hHeld ?_ ?_
        · rintro w' ⟨s0, s1, s2, s3, s4, s5, s6, s7, s8⟩
          go_simp
          try (with_reducible rfl)
        rotate_left
        · simp only [Act.put, List.setIfInBounds_toArray, List.set_cons_zero, List.set_cons_succ, i64_w, i32_w]
          rfl
        refine take_ (i := 2) (N := some 38) (v := .slice (some ad) nn c') (a' := ?_) #[true, false, true, true, true, true, false, false, false, false, false, false, false, false] rfl rfl (by kernel_rfl) (fun _ _ _ h => h) (Or.inl ⟨by rfl, ?_⟩) hHeld ?_ ?_
        · rintro w' ⟨s0, s1, s2, s3, s4, s5, s6, s7, s8⟩
          go_simp
          try (with_reducible rfl)
        rotate_left
        · simp only [Act.put, List.setIfInBounds_toArray, List.set_cons_zero, List.set_cons_succ, i64_w, i32_w]
          rfl
        refine pure_ (i := 6) (N := some 42) (v := .slice (some ad6) 4 c6) (a' := ?_) #[true, false, true, true, true, true, true, false, false, false, false, false, false, false] rfl rfl (by kernel_rfl) (fun _ _ _ h => h) (Or.inl ⟨by rfl, ?_⟩) ?_ ?_
        · intro w'
          go_simp
          try (with_reducible rfl)
        rotate_left
        · simp only [Act.put, List.setIfInBounds_toArray, List.set_cons_zero, List.set_cons_succ, i64_w, i32_w]
          rfl
        refine pure_ (i := 7) (N := some 43) (v := .pointer (some ad6)) (a' := ?_) #[true, false, true, true, true, true, true, true, false, false, false, false, false, false] rfl rfl (by kernel_rfl) (fun _ _ _ h => h) (Or.inl ⟨by rfl, ?_⟩) ?_ ?_
        · intro w'
          go_simp
          try (with_reducible rfl)
        rotate_left
        · simp only [Act.put, List.setIfInBounds_toArray, List.set_cons_zero, List.set_cons_succ, i64_w, i32_w]
          rfl
        refine take_ (i := 8) (N := some 44) (v := .agg (arr4v y6)) (a' := ?_) #[true, false, true, true, true, true, true, true, true, false, false, false, false, false] rfl rfl (by kernel_rfl) (fun _ _ _ h => h) (Or.inl ⟨by rfl, ?_⟩) hHeld ?_ ?_
        · rintro w' ⟨s0, s1, s2, s3, s4, s5, s6, s7, s8⟩
          go_simp
          try (with_reducible rfl)
        rotate_left
        · simp only [Act.put, List.setIfInBounds_toArray, List.set_cons_zero, List.set_cons_succ, i64_w, i32_w]
          rfl
        refine one_ (i := 1) (N := some 37) #[true, true, true, true, true, true, true, true, true, false, false, false, false, false] rfl rfl (by kernel_rfl) (by decide) (fun K hK => ?_)
        refine goes_ Tryd.func41 (by kernel_rfl) rfl #[.agg (arr4v y4)] (by rfl) rfl rfl (by (try simp only [List.map_toArray, List.map_cons, List.map_nil]); rfl) ?_
        refine (HOC4.out _).mono ?_
        rintro e w7 ⟨rfl, hb7⟩
        have BK7 : Hid (w7.heap[gx]? = some (.cells #[.int .u32 0, .int .i64 x, .int .u32 0] 44 (0, 0))) := (hb7.block gx (blk_lt BK5.out)).trans BK5.out
        have BN7 : Hid (w7.heap[gn]? = some (.cells (arr4v y4) 46 (0, 0))) := (hb7.block gn (blk_lt BN5.out)).trans BN5.out
        have HB7 : Hid (Below wr.heap.size wr w7) := HB5.out.trans (hb7.mono HB5.out.size)
        clear hb7 BK5 BN5 HB5 hHeld
        refine ⟨_, rfl, ?_⟩
        refine hK.out _ _ ⟨(rt_boxed_blw HBX1.out HB7.out).cell, (blk_cell BN7.out 0).trans rfl, (blk_cell BN7.out 1).trans rfl, (blk_cell BN7.out 2).trans rfl, (blk_cell BN7.out 3).trans rfl, H46.out _ HB7.out, H46'.out _ HB7.out 1 (by decide), H46'.out _ HB7.out 2 (by decide), H46'.out _ HB7.out 3 (by decide)⟩ (fun hHeld => ?_)
        clear hK K
        try (refine norm_ (a' := ?_) ?_ ?_; rotate_left; focus (simp only [Act.put, List.setIfInBounds_toArray, List.set_cons_zero, List.set_cons_succ, i64_w, i32_w]; rfl))
        refine pure_ (i := 10) (N := some 46) (v := ?_) (a' := ?_) #[true, true, true, true, true, true, true, true, true, false, true, false, false, false] rfl rfl (by kernel_rfl) (fun _ _ _ h => h) (Or.inl ⟨by rfl, ?_⟩) ?_ ?_
        rotate_left
        · intro w'
          go_simp
          with_reducible rfl
        rotate_left
        · simp only [Act.put, List.setIfInBounds_toArray, List.set_cons_zero, List.set_cons_succ, i64_w, i32_w]
          rfl
        refine one_ (i := 9) (N := some 45) #[true, true, true, true, true, true, true, true, true, true, true, false, false, false] rfl rfl (by kernel_rfl) (by decide) (fun K hK => ?_)
        refine goes_ Tryd.func41 (by kernel_rfl) rfl #[.agg (arr4v y6)] (by rfl) rfl rfl (by (try simp only [List.map_toArray, List.map_cons, List.map_nil]); rfl) ?_
        refine (HOC6.out _).mono ?_
        rintro e w8 ⟨rfl, hb8⟩
        have BK8 : Hid (w8.heap[gx]? = some (.cells #[.int .u32 0, .int .i64 x, .int .u32 0] 44 (0, 0))) := (hb8.block gx (blk_lt BK7.out)).trans BK7.out
        have BN8 : Hid (w8.heap[gn]? = some (.cells (arr4v y4) 46 (0, 0))) := (hb8.block gn (blk_lt BN7.out)).trans BN7.out
        have HB8 : Hid (Below wr.heap.size wr w8) := HB7.out.trans (hb8.mono HB7.out.size)
        clear hb8 BK7 BN7 HB7 hHeld
        refine ⟨_, rfl, ?_⟩
        refine hK.out _ _ ⟨(rt_boxed_blw HBX1.out HB8.out).cell, (blk_cell BN8.out 0).trans rfl, (blk_cell BN8.out 1).trans rfl, (blk_cell BN8.out 2).trans rfl, (blk_cell BN8.out 3).trans rfl, H46.out _ HB8.out, H46'.out _ HB8.out 1 (by decide), H46'.out _ HB8.out 2 (by decide), H46'.out _ HB8.out 3 (by decide)⟩ (fun hHeld => ?_)
        clear hK K
        try (refine norm_ (a' := ?_) ?_ ?_; rotate_left; focus (simp only [Act.put, List.setIfInBounds_toArray, List.set_cons_zero, List.set_cons_succ, i64_w, i32_w]; rfl))
        refine last_ (i := 11) (N := none) #[true, true, true, true, true, true, true, true, true, true, true, true, false, false] rfl rfl (by kernel_rfl) (by decide) (fun K hK => ?_)
        have u0 := (blk_cell BK8.out 0).trans rfl
        have f0 := blk_frozen BK8.out 0
        go_simp
        obtain ⟨w9, hw9⟩ : ∃ W, w8.setCell ⟨gx, 0, none⟩ (.int .u32 v4) = W := ⟨_, rfl⟩
        have BK9 : Hid (w9.heap[gx]? = some (.cells #[.int .u32 v4, .int .i64 x, .int .u32 0] 44 (0, 0))) := by show _ = _; rw [← hw9]; exact blk_put BK8.out 0 _ rfl
        have HB9 : Hid (Below wr.heap.size wr w9) := by show Below _ _ _; rw [← hw9]; exact below_set HB8.out HGX.out
        rw [hw9]
        clear hw9 u0 f0 BK8 BN8 HB8
        refine hK.out _ _ ?_
        clear hK K
        refine pure_ (i := 12) (N := some 47) (v := ?_) (a' := ?_) #[true, true, true, true, true, true, true, true, true, true, true, true, true, false] rfl rfl (by kernel_rfl) (fun _ _ _ h => h) (Or.inl ⟨by rfl, ?_⟩) ?_ ?_
        rotate_left
        · intro w'
          go_simp
          with_reducible rfl
        rotate_left
        · simp only [Act.put, List.setIfInBounds_toArray, List.set_cons_zero, List.set_cons_succ, i64_w, i32_w]
          rfl
        refine last_ (i := 13) (N := none) #[true, true, true, true, true, true, true, true, true, true, true, true, true, true] rfl rfl (by kernel_rfl) (by decide) (fun K hK => ?_)
        have u2 := (blk_cell BK9.out 2).trans rfl
        have f2 := blk_frozen BK9.out 2
        go_simp
        refine hK.out _ _ ?_
        clear hK K u2 f2
        refine done_ (by kernel_rfl) ?_
        obtain ⟨wa, hwa⟩ : ∃ W, w9.setCell ⟨gx, 2, none⟩ (.int .u32 v6) = W := ⟨_, rfl⟩
        have BKa : Hid (wa.heap[gx]? = some (.cells #[.int .u32 v4, .int .i64 x, .int .u32 v6] 44 (0, 0))) := by show _ = _; rw [← hwa]; exact blk_put BK9.out 2 _ rfl
        have HBa : Hid (Below wr.heap.size wr wa) := by show Below _ _ _; rw [← hwa]; exact below_set HB9.out HGX.out
        rw [hwa]
        clear hwa BK9 HB9 hcut6 harr H46 H46'
        have HBXa := Lib.hid (rt_boxed_blw HBX1.out HBa.out)
        have HJa := Lib.hid (HJG.out _ _ _ HJ.out HBa.out)
        have y1 := HBXa.out.cell
        have z1 := HBXa.out.frozen
        have r3 := HR3.out
        go_upto_region 9 with fail
        obtain ⟨wb, hwb⟩ : ∃ W, wa.setCell ⟨Bn, 0, none⟩ (.slice A5 s5.length c5) = W := ⟨_, rfl⟩
        have hnb : gx ≠ Bn := by have h1 := HBX1.out.lt; have h2 := HGX.out; omega
        have BKb : Hid (wb.heap[gx]? = some (.cells #[.int .u32 v4, .int .i64 x, .int .u32 v6] 44 (0, 0))) := by show _ = _; rw [← hwb]; exact (Below.heap_setCell _ _ _ _ hnb).trans BKa.out
        have HBXb : Hid (Boxed wb Bn 24 (.slice A5 s5.length c5)) := by show Boxed _ _ _ _; rw [← hwb]; exact HBXa.out.set _
        have HJb : Hid (J pre wb) := by show J _ _; rw [← hwb]; exact HJS.out _ _ _ _ HJa.out HBXa.out
        rw [hwb]
        clear hwb hnb y1 z1 r3 BKa HBa HBXa HJa
        obtain ⟨rb, hrb⟩ : ∃ q, rtRight ⟨v4, x, v6⟩ = q := ⟨_, rfl⟩
        have HRC := Lib.hid (fun W => route_Right.calls v4 x v6 (rtRight ⟨v4, x, v6⟩) W (right_total ⟨v4, x, v6⟩))
        rw [hrb] at HRC
        have HRB := Lib.hid hrb
        clear hrb
        refine (wpIn_wide (n := n + 1)).1 ?_
        refine startI_ (m := 6) (S := fun w' => w'.cell? ⟨gx, 0, none⟩ = some (.int .u32 v4) ∧ w'.cell? ⟨gx, 1, none⟩ = some (.int .i64 x) ∧ w'.cell? ⟨gx, 2, none⟩ = some (.int .u32 v6)) (ds := [4]) #[false, false, false, false, false, false] (by kernel_rfl) rfl rfl ⟨(blk_cell BKb.out 0).trans rfl, (blk_cell BKb.out 1).trans rfl, (blk_cell BKb.out 2).trans rfl⟩ (fun hHeld => ?_)
        obtain ⟨wc, hwc⟩ : ∃ W, wb.drew = W := ⟨_, rfl⟩
        have hbc : Below wb.heap.size wb wc := by rw [← hwc]; exact below_drew (Below.refl _ _)
        have BKc : Hid (wc.heap[gx]? = some (.cells #[.int .u32 v4, .int .i64 x, .int .u32 v6] 44 (0, 0))) := (hbc.block _ (blk_lt BKb.out)).trans BKb.out
        have HBXc := Lib.hid (rt_boxed_blw HBXb.out hbc)
        have HJc := Lib.hid (HJG.out _ _ _ HJb.out hbc)
        rw [hwc] at hHeld ⊢
        clear hwc hbc BKb HBXb HJb
        refine pureI_ (i := 0) (N := some 52) (v := .func (.yield l) #[] #[]) (a' := ?_) rfl #[true, false, false, false, false, false] rfl rfl (by kernel_rfl) (fun _ _ _ h => h) (Or.inl ⟨by rfl, ?_⟩) (fun _ => rfl) ?_ ?_
        · intro w' _
          go_simp
          try (with_reducible rfl)
        rotate_left
        · simp only [Act.put, List.setIfInBounds_toArray, List.set_cons_zero, List.set_cons_succ, i64_w, i32_w]
          rfl
        refine takeI_ (i := 1) (N := some 53) (v := .agg #[.int .u32 v4, .int .i64 x, .int .u32 v6]) (a' := ?_) rfl #[true, true, false, false, false, false] rfl rfl (by kernel_rfl) (fun _ _ _ h => h) (Or.inl ⟨by rfl, ?_⟩) (fun _ => rfl) hHeld ?_ ?_
        · rintro w' ⟨s0, s1, s2⟩
          go_simp
          try (with_reducible rfl)
        rotate_left
        · simp only [Act.put, List.setIfInBounds_toArray, List.set_cons_zero, List.set_cons_succ, i64_w, i32_w]
          rfl
        refine takeI_ (i := 2) (N := some 54) (v := .agg #[.int .u32 v4, .int .i64 x, .int .u32 v6]) (a' := ?_) rfl #[true, true, true, false, false, false] rfl rfl (by kernel_rfl) (fun _ _ _ h => h) (Or.inl ⟨by rfl, ?_⟩) (fun _ => rfl) hHeld ?_ ?_
        · rintro w' ⟨s0, s1, s2⟩
          go_simp
          try (with_reducible rfl)
        rotate_left
        · simp only [Act.put, List.setIfInBounds_toArray, List.set_cons_zero, List.set_cons_succ, i64_w, i32_w]
          rfl
        refine oneI_ (i := 3) (N := some 55) #[true, true, true, true, false, false] rfl rfl (by kernel_rfl) (by decide) (by rfl) (fun K hK => ?_)
        refine callI_ (N := some 55) Tryd.func12 (by kernel_rfl) rfl #[.agg #[.int .u32 v4, .int .i64 x, .int .u32 v6]] rfl rfl (by (try simp only [List.map_toArray, List.map_cons, List.map_nil]); rfl) ?_
        refine (HRC.out _).mono ?_
        rintro e wd ⟨rfl, hbd⟩
        have BKd : Hid (wd.heap[gx]? = some (.cells #[.int .u32 v4, .int .i64 x, .int .u32 v6] 44 (0, 0))) := (hbd.block _ (blk_lt BKc.out)).trans BKc.out
        have HBXd := Lib.hid (rt_boxed_blw HBXc.out hbd)
        have HJd := Lib.hid (HJG.out _ _ _ HJc.out hbd)
        clear hbd BKc HBXc HJc hHeld
        refine ⟨_, rfl, ?_⟩
        refine hK.out _ _ ⟨(blk_cell BKd.out 0).trans rfl, (blk_cell BKd.out 1).trans rfl, (blk_cell BKd.out 2).trans rfl⟩ (fun hHeld => ?_)
        clear hK K
        refine normI_ (a' := ?_) ?_ ?_
        rotate_left
        focus (simp only [Act.put, List.setIfInBounds_toArray, List.set_cons_zero, List.set_cons_succ, i64_w, i32_w]; rfl)
        refine lastI_ (i := 4) (N := some 56) #[true, true, true, true, true, false] rfl rfl (by kernel_rfl) (by decide) (by rfl) (fun K hK => ?_)
        have HYB : YieldAt Fence.wide n Tryd.prog l #[.agg #[.int .u32 v4, .int .i64 x, .int .u32 v6], .bool rb] wd fun e W' => e = .returned (.bool rb) ∧ (if rb = true then J (pre ++ [⟨v4, x, v6⟩]) W' ∧ Boxed W' Bn 24 (.slice A5 s5.length c5) else rdGo b [] = none ∧ End W') := by
          cases rb with
          | true => exact yieldAt_mono (HY1.out pre wd ⟨v4, x, v6⟩ _ HJd.out HPL.out HBXd.out) (fun e w' h => ⟨h.1, by rw [if_pos rfl]; exact h.2⟩)
          | false =>
            have hno : rdGo b [] = none := HP.out.symm.trans (rdGo_wrong (by rw [HON.out]; exact HGD.out) (by rw [HXR.out]; exact HRB.out))
            exact yieldAt_mono (HY2.out pre wd ⟨v4, x, v6⟩ HJd.out hno) (fun e w' h => ⟨h.1, by rw [if_neg (by decide)]; exact ⟨hno, h.2⟩⟩)
        refine yieldI_ (N := some 56) (l := l) #[.agg #[.int .u32 v4, .int .i64 x, .int .u32 v6], .bool rb] rfl rfl (by rfl) (by (try simp only [List.map_toArray, List.map_cons, List.map_nil]); rfl) ?_
        refine yieldAt_mono HYB ?_
        rintro e W7 ⟨rfl, hif⟩
        have HIF := Lib.hid hif
        clear HYB hif HJd HBXd BKd hHeld
        refine ⟨_, rfl, ?_⟩
        refine hK.out _ _ ?_
        clear hK K
        refine normI_ (a' := ?_) ?_ ?_
        rotate_left
        focus (simp only [Act.put, List.setIfInBounds_toArray, List.set_cons_zero, List.set_cons_succ, i64_w, i32_w]; rfl)
        refine pureI_ (i := 5) (N := some 57) (v := .bool (!rb)) (a' := ?_) rfl #[true, true, true, true, true, true] rfl rfl (by kernel_rfl) (fun _ _ _ h => h) (Or.inl ⟨by rfl, ?_⟩) (fun _ => rfl) ?_ ?_
        · intro w' _
          go_simp
          try (with_reducible rfl)
        rotate_left
        · simp only [Act.put, List.setIfInBounds_toArray, List.set_cons_zero, List.set_cons_succ, i64_w, i32_w]
          rfl
        refine doneI_ (by kernel_rfl) ?_
        cases rb with
        | false =>
          have hif := HIF.out
          rw [if_neg (by decide)] at hif
          have HE := Lib.hid hif
          clear hif HIF
          go_wp2_with fail
          refine bodyPost_ret (results_none rfl _ _ _) rfl ⟨⟨_, rfl⟩, Or.inr HE.out⟩
        | true =>
          have hif := HIF.out
          rw [if_pos rfl] at hif
          have HJ7 := Lib.hid hif.1
          have HB7 := Lib.hid hif.2
          clear hif HIF
          go_wp2_with fail
          have HBY5 : Hid (∀ y ∈ s5, 0 ≤ y ∧ y ≤ 255) := fun y hy2 => HBR.out y (List.mem_of_mem_drop (HS5.out ▸ hy2))
          have HP5 : Hid (rdGo s5 (pre ++ [⟨v4, x, v6⟩]) = rdGo b []) := by
            have h1 := (rdGo_step (pre := pre) (by rw [HON.out]; exact HGD.out) (by rw [HXR.out]; exact HRB.out)).symm.trans HP.out
            rw [HXR.out, HON.out, ← HS5.out] at h1
            exact h1
          go_roundg (s5.length)
          case measure => exact HM5.out
          case rel => exact ⟨s5, A5, c5, pre ++ [⟨v4, x, v6⟩], rfl, HL5, Lib.hid (by have := HLP5.out; simp only [List.length_append, List.length_singleton]; omega), HBY5, HC5, HB7, HJ7, HP5⟩
end Go.Proofs.YtdpoknfidlekbaaDoor
end

section
namespace Go.Proofs.YtdpoknfidlekbaaDoor
open Go.RowKit Go.Proofs.YtdpoknfidlekbaaDoor.Pr Go.Proofs.YtdpoknfidlekbaaDoorW.PrintWords Go.Proofs.YtdpoknfidlekbaaDoorW.PrintLast Go.Proofs.YtdpoknfidlekbaaDoorW.PrintMore
attribute [local go_sem] max2_int min2_int max_two min_two max_three min_three max_four min_four Oper.semAt_some
set_option linter.unusedVariables false
set_option linter.unusedSimpArgs false

theorem routes_calls (A0 : Option Addr) (n c0 : Nat) (w : World) :
    Calls Tryd.prog 26 #[.slice A0 n c0] w fun e w' => e = .returned (.func (.func 40) #[] #[.pointer (some ⟨w.heap.size, 0, none⟩)]) ∧ w' = w.alloc (.cells #[.slice A0 n c0] 24) := by
  go_enter Tryd.func26, Tryd.ntmps26
  go_wp2
  go_ret
  exact ⟨rfl, rfl⟩

/-- A round whose assignment turns the world. -/
theorem rt_roundA {P : Program} {n l : Nat} {W W1 : World} {args : Array Value} (R : Bool → Option Code → World → Prop) {fn : FuncId} {tmps : Array Value} {ps : Array Tmp} {assign body : Code} {dk : Nat} {r : LoopState → Option Code → Loop}
    (hr : r = rfRec fn tmps ps assign body dk) (hl : W.heap[l]? = some (.loop (r .ready none))) (hl1 : W1.heap[l]? = some (.loop (r .ready none))) (hs : args.size = ps.size) (a₁ : Act)
    (hassign : ∀ K : Act → World → Prop, K a₁ W1 → assign.wpIn (Fence.wide.inRound l) n P (Exit.then K (fun _ _ _ => False)) { tmps := (ps.zip args).foldl (fun t (p, v) => t.setIfInBounds p v) tmps, defers := [] } W)
    (hbody : body.wpIn (Fence.wide.inRound l) n P (rfPost r l R) a₁ (W1.putObj l (.loop (r .busy none)))) :
    YieldAt Fence.wide n P l args W fun e W' => ∃ b jump, e = .returned (.bool b) ∧ R b jump W' ∧ (b = true → jump = none) := by
  subst hr
  have hy := run_yield (P := P) (args := args) hl (by simpa [rfRec] using hs)
  refine ⟨fn, _, assign, body, hy, roundIn_of_wpIn trivial (hassign _ ⟨_, run_beginRound hl1 rfl, ?_⟩)⟩
  refine wpIn_mono hbody ?_
  intro e a W3 hp
  cases e with
  | normal =>
    obtain ⟨hb, hr⟩ := hp
    exact ⟨_, _, run_endRound (P := P) none hb, true, none, rfl, hr, fun _ => rfl⟩
  | ret =>
    obtain ⟨hb, hr⟩ := hp
    exact ⟨_, _, run_endRound (P := P) (some .ret) hb, false, some .ret, rfl, hr, fun h => by cases h⟩
  | exit id =>
    obtain ⟨hb, hr⟩ := hp
    exact ⟨_, _, run_endRound (P := P) (some (.exit id)) hb, false, some (.exit id), rfl, hr, fun h => by cases h⟩
  | goto t => exact hp.elim
  | panic ch => exact hp.elim
  | outgrown => exact hp.elim

theorem grown_heapR {α : Type} {d : Kd α} {e : Nat} {w w1 : World} {base : Nat} {ok : Nat → Prop} {v : Value} {xs : List α} (h : Kd.R d e w base ok v xs) (hg : w.grownBy w1 v.ownBlock) {k : Nat} {o : Obj} (hk : w.heap[k]? = some o) (ho : o.isCells = false) : w1.heap[k]? = some o := by
  refine (hg.block k (lt_of_heap hk) ?_).trans hk
  intro e
  obtain ⟨cells, hc⟩ := Kd.R_typed h k e.symm
  rw [hk] at hc; cases hc; cases ho
theorem rinfo : (Tryd.prog.info? 44).map (fun i => (i.zero, i.size, i.bytes)) = some (some (.agg #[.int .u32 0, .int .i64 0, .int .u32 0]), 3, 24) := by kernel_rfl
/-! ### what Decode hands back -/
def rdR (l : List Int) : List RtE × Int := if 255 < l.length then ([], 2) else match rdGo l [] with | some m => (m, 0) | none => ([], 2)
def route_Decode.f (l0 : List Int) : Option (List RtE × Int) := if (∀ x ∈ l0, 0 ≤ x ∧ x ≤ 255) ∧ l0.length < 1099511627776 then some (rdR l0) else none

/-- Between two rounds. -/
structure RdJ (w : World) (D : Nat) (r : Loop) (pre : List RtE) (W : World) : Prop where
  b0 : Boxed W w.heap.size 28 (.slice none 0 0)
  b1 : Boxed W (w.heap.size + 1) 29 (.int .i64 0)
  row : ∃ A c, Boxed W (w.heap.size + 2) 28 (.slice A pre.length c) ∧ Kd.R k44 44 W w.heap.size (fun _ => True) (.slice A pre.length c) pre
  below : Below w.heap.size w W
  loop : W.heap[D + 1]? = some (.loop r)
  coll : W.heap[D]? = some (.deferred (some []))
/-- Behind the last. -/
structure RdE (w : World) (D : Nat) (r : Loop) (res : List RtE × Int) (W : World) : Prop where
  row : ∃ A c, Boxed W w.heap.size 28 (.slice A res.1.length c) ∧ Kd.R k44 44 W w.heap.size (fun _ => True) (.slice A res.1.length c) res.1
  b1 : Boxed W (w.heap.size + 1) 29 (.int .i64 res.2)
  below : Below w.heap.size w W
  loop : W.heap[D + 1]? = some (.loop r)
  coll : W.heap[D]? = some (.deferred (some []))
theorem RdJ.grow {w W W' : World} {D : Nat} {r : Loop} {pre : List RtE} (h : RdJ w D r pre W) (hg : Below W.heap.size W W') : RdJ w D r pre W' := by
  obtain ⟨A, c, bo, hs⟩ := h.row
  exact ⟨boxed_below h.b0 hg, boxed_below h.b1 hg, ⟨A, c, boxed_below bo hg, Kd.R_below hs hg⟩, below_then h.below h.below.size hg, below_heap hg h.loop, below_heap hg h.coll⟩
theorem RdJ.set {w W : World} {D : Nat} {r : Loop} {pre : List RtE} (h : RdJ w D r pre W) {q : Nat} {v : Value} (u : Value) (hq : Boxed W q 24 v) (hq3 : w.heap.size + 2 < q) : RdJ w D r pre (W.setCell ⟨q, 0, none⟩ u) := by
  obtain ⟨A, c, bo, hs⟩ := h.row
  exact ⟨boxed_set_other u h.b0 (by omega), boxed_set_other u h.b1 (by omega), ⟨A, c, boxed_set_other u bo (by omega), Kd.R_set hs hq (by decide) 0 u⟩, h.below.setCell (p := ⟨q, 0, none⟩) (show w.heap.size ≤ q by omega) u,
    set_heap hq h.loop rfl, set_heap hq h.coll rfl⟩

/-- The answer laid, the round left. -/
theorem rd_end {w W : World} {D : Nat} {r : LoopState → Option Code → Loop} {v0 z0 : Value} {A : Option Addr} {c : Nat} {z : Int} {xs : List RtE} (c0 : Boxed W w.heap.size 28 v0) (c1 : Boxed W (w.heap.size + 1) 29 z0)
    (hS : Kd.R k44 44 W w.heap.size (fun _ => True) (.slice A xs.length c) xs) (hB : Below w.heap.size w W) (hl : W.heap[D + 1]? = some (.loop (r .busy none))) (hd : W.heap[D]? = some (.deferred (some []))) (hD : w.heap.size + 4 ≤ D) :
    ((W.setCell ⟨w.heap.size, 0, none⟩ (.slice A xs.length c)).setCell ⟨w.heap.size + 1, 0, none⟩ (.int .i64 z)).heap[D + 1]? = some (.loop (r .busy none)) ∧
      RdE w D (r .done (some .ret)) (xs, z) (((W.setCell ⟨w.heap.size, 0, none⟩ (.slice A xs.length c)).setCell ⟨w.heap.size + 1, 0, none⟩ (.int .i64 z)).putObj (D + 1) (.loop (r .done (some .ret)))) := by
  have d1 := boxed_set_other (B' := w.heap.size) (.slice A xs.length c) c1 (by omega)
  have e0 := boxed_set_other (B' := w.heap.size + 1) (.int .i64 z) (c0.set (.slice A xs.length c)) (by omega)
  have e1 := d1.set (.int .i64 z)
  have eS := Kd.R_set (Kd.R_set hS c0 (by decide) 0 (.slice A xs.length c)) d1 (by decide) 0 (.int .i64 z)
  have el := set_heap (u := .int .i64 z) d1 (set_heap (u := .slice A xs.length c) c0 hl rfl) rfl
  have ed := set_heap (u := .int .i64 z) d1 (set_heap (u := .slice A xs.length c) c0 hd rfl) rfl
  have eB := (hB.setCell (p := ⟨w.heap.size, 0, none⟩) (Nat.le_refl _) (.slice A xs.length c)).setCell (p := ⟨w.heap.size + 1, 0, none⟩) (Nat.le_succ _) (.int .i64 z)
  exact ⟨el, ⟨A, c, boxed_put e0 _ el rfl, R_put eS _ el rfl⟩, boxed_put e1 _ el rfl, below_put eB _ (by omega), put_same _ el, put_other _ (by omega) ed⟩
theorem rd_results {tmps : Array Value} {W : World} {bl be : Nat} {A : Option Addr} {n c : Nat} {z : Int} (h2 : tmps[2]? = some (.pointer (some ⟨bl, 0, none⟩))) (h3 : tmps[3]? = some (.pointer (some ⟨be, 0, none⟩)))
    (hl : Boxed W bl 28 (.slice A n c)) (hf : Boxed W be 29 (.int .i64 z)) : (results Tryd.f10 tmps).run Tryd.prog W = .ok (.tuple #[.slice A n c, .int .i64 z]) W := by
  have y1 := hl.cell
  have y2 := hf.cell
  simp [results, Tryd.results10, go_sem, h2, h3, y1, y2]

set_option maxHeartbeats 4000000 in
set_option maxRecDepth 100000 in
theorem route_Decode.calls (A0 : Option Addr) (c0 : Nat) (l0 : List Int) (r1 : List RtE) (r2 : Int) (w : World) (hr0 : Kd.C (Kd.int .u8) w A0 l0.length l0) (hc0 : l0.length ≤ c0) (h : route_Decode.f l0 = some (r1, r2)) :
    Calls Tryd.prog 10 #[.slice A0 l0.length c0] w fun e w' => ∃ v0_ : Value, e = .returned (.tuple #[v0_, .int .i64 r2]) ∧ Kd.R k44 44 w' w.heap.size (fun _ => True) v0_ r1 ∧ Below w.heap.size w w' := by
  unfold route_Decode.f at h
  split at h
  case isFalse => cases h
  rename_i hcond
  obtain ⟨hbytes, hlen⟩ := hcond
  have HRES : Hid (rdR l0 = (r1, r2)) := Option.some.inj h
  clear h
  have HC := Lib.hid hr0
  have HBY := Lib.hid hbytes
  clear hr0 hbytes
  by_cases hl : 255 < l0.length
  · have e : rdR l0 = ([], 2) := by unfold rdR; rw [if_pos hl]
    obtain ⟨rfl, rfl⟩ := Prod.mk.inj (e.symm.trans HRES.out)
    clear e HRES
    have p1 : ((l0.length : Int) > 255) = True := eq_true (by omega)
    go_enter Tryd.func10, Tryd.ntmps10
    go_wp2_with fail
    refine bodyPost_ret (v := .tuple #[.slice none 0 0, .int .i64 2]) (by simp [results, Tryd.results10, go_sem]) rfl ⟨_, rfl, Kd.R_nil _ _ _ _ _, below_alloc (below_alloc (Below.refl _ _) _) _⟩
  · have p1 : ((l0.length : Int) > 255) = False := eq_false (by omega)
    have p2 : (255 < l0.length) = False := eq_false hl
    refine (callsIn_wide (n := 3)).1 (callsIn_of_wp_marks Tryd.func10 rfl trivial ?_ rfl)
    simp only [Tryd.ntmps10, List.size_toArray, List.length_cons, List.length_nil, Nat.reduceAdd, Nat.reduceSub, Array.replicate_succ, Array.replicate_zero, List.push_toArray, List.append_toArray, List.nil_append, List.cons_append]
    gi_wp2_with (refine ⟨trivial, ?_⟩; gi_at_call 26; refine callsIn_wide.2 ((routes_calls _ _ _ _).mono ?_); rintro e w' ⟨rfl, rfl⟩)
    obtain ⟨W0, hW0⟩ : ∃ W0, ((((w.alloc (Obj.cells #[Value.slice none 0 0] 28)).alloc (Obj.cells #[Value.int IntKind.i64 0] 29)).alloc (Obj.cells #[Value.slice none 0 0] 28)).alloc (Obj.cells #[Value.slice A0 l0.length c0] 24)) = W0 := ⟨_, rfl⟩
    have hsz : W0.heap.size = w.heap.size + 4 := by rw [← hW0]; simp
    have HSZ := Lib.hid hsz
    clear hsz
    have b0 : Boxed W0 w.heap.size 28 (.slice none 0 0) := by rw [← hW0]; exact (((Boxed.new _ _ _).alloc _).alloc _).alloc _
    have b1 : Boxed W0 (w.heap.size + 1) 29 (.int .i64 0) := by
      rw [← hW0]
      have := ((Boxed.new (w.alloc (Obj.cells #[Value.slice none 0 0] 28)) 29 (.int .i64 0)).alloc (Obj.cells #[Value.slice none 0 0] 28)).alloc (Obj.cells #[Value.slice A0 l0.length c0] 24)
      rwa [World.size_alloc] at this
    have bo : Boxed W0 (w.heap.size + 2) 28 (.slice none 0 0) := by
      rw [← hW0]
      have := (Boxed.new ((w.alloc (Obj.cells #[Value.slice none 0 0] 28)).alloc (Obj.cells #[Value.int IntKind.i64 0] 29)) 28 (.slice none 0 0)).alloc (Obj.cells #[Value.slice A0 l0.length c0] 24)
      rwa [World.size_alloc, World.size_alloc] at this
    have bB : Boxed W0 (w.heap.size + 1 + 1 + 1) 24 (.slice A0 l0.length c0) := by
      rw [← hW0]
      have := Boxed.new (((w.alloc (Obj.cells #[Value.slice none 0 0] 28)).alloc (Obj.cells #[Value.int IntKind.i64 0] 29)).alloc (Obj.cells #[Value.slice none 0 0] 28)) 24 (.slice A0 l0.length c0)
      rwa [World.size_alloc, World.size_alloc, World.size_alloc] at this
    have hB0 : Below w.heap.size w W0 := by rw [← hW0]; exact below_alloc (below_alloc (below_alloc (below_alloc (Below.refl _ _) _) _) _) _
    rw [hW0]
    clear hW0
    have hgs := fun r => rfStart_below W0 r
    refine rf_wide (gf := 40) (lb := #[.pointer (some ⟨w.heap.size + 1 + 1 + 1, 0, none⟩)]) rfl (fun args w => enters_ Tryd.func40 (by kernel_rfl) rfl args w) ?_
    intro fn r hr
    have HRR := Lib.hid hr
    clear hr
    refine (routes1_calls l0 w HBY.out hlen 3 (W0.heap.size + 1) (w.heap.size + 1 + 1 + 1) (RdJ w W0.heap.size (r .ready none)) (RdE w W0.heap.size (r .done (some .ret)) (r1, r2)) (by omega) ?hJb ?hJg ?hJs ?hY1 ?hY2 _ ?h0 A0 c0 HC.out hc0 (boxed_below bB (hgs _))).mono ?post
    case hJb => exact fun pre W h => h.below
    case hJg => exact fun pre W W' h hg => h.grow hg
    case hJs => exact fun pre W v u h hq => h.set u hq (by omega)
    case h0 => exact ⟨boxed_below b0 (hgs _), boxed_below b1 (hgs _), ⟨none, 0, boxed_below bo (hgs _), Kd.R_nil _ _ _ _ _⟩, below_then hB0 hB0.size (hgs _), rfStart_loop _ _, rfStart_def _ _⟩
    case hY1 =>
      intro pre Wb x bv hJ2 hpl hB
      have ga := below_alloc (Below.refl Wb.heap.size Wb) (.cells #[.int .u32 x.f0, .int .i64 x.f1, .int .u32 x.f2] 44)
      have hJ3 := hJ2.grow ga
      have hB3 := boxed_below hB ga
      have hX3 := blk_new Wb (.cells #[.int .u32 x.f0, .int .i64 x.f1, .int .u32 x.f2] 44)
      refine yieldAt_mono (rt_roundA (n := 3) (W1 := Wb.alloc (.cells #[.int .u32 x.f0, .int .i64 x.f1, .int .u32 x.f2] 44)) (fun b _ W' => b = true ∧ RdJ w W0.heap.size (r .ready none) (pre ++ [x]) W' ∧ Boxed W' (w.heap.size + 1 + 1 + 1) 24 bv) HRR.out hJ2.loop hJ3.loop rfl
        { tmps := #[.slice A0 l0.length c0, undef, .pointer (some ⟨w.heap.size, 0, none⟩), .pointer (some ⟨w.heap.size + 1, 0, none⟩), .pointer (some ⟨w.heap.size + 1 + 1, 0, none⟩), .pointer (some ⟨Wb.heap.size, 0, none⟩), .bool true, .slice A0 l0.length c0, .int .i64 l0.length, .bool false, .slice A0 l0.length c0, .func (.func 40) #[] #[.pointer (some ⟨w.heap.size + 1 + 1 + 1, 0, none⟩)], .agg #[.int .u32 x.f0, .int .i64 x.f1, .int .u32 x.f2], .bool true, undef, undef, undef, undef, undef, undef, undef], defers := [] } ?asg ?bdy) ?_
      case asg =>
        intro K hK
        gi_wp2
        exact hK
      case bdy =>
        obtain ⟨Av, cv, bo3, hs3⟩ := hJ3.row
        obtain ⟨bx, hbx⟩ : ∃ b, Wb.heap.size = b := ⟨_, rfl⟩
        obtain ⟨W1, hW1⟩ : ∃ W, Wb.alloc (.cells #[.int .u32 x.f0, .int .i64 x.f1, .int .u32 x.f2] 44) = W := ⟨_, rfl⟩
        rw [hbx] at hX3 ⊢
        rw [hW1] at hX3 hJ3 bo3 hs3 hB3 ⊢
        clear hW1 hbx ga hJ2 hB
        obtain ⟨Wc, hWc⟩ : ∃ Wc, W1.putObj (W0.heap.size + 1) (.loop (r .busy none)) = Wc := ⟨_, rfl⟩
        have c0' := boxed_put hJ3.b0 (.loop (r .busy none)) hJ3.loop rfl
        have c1 := boxed_put hJ3.b1 (.loop (r .busy none)) hJ3.loop rfl
        have co := boxed_put bo3 (.loop (r .busy none)) hJ3.loop rfl
        have cb := boxed_put hB3 (.loop (r .busy none)) hJ3.loop rfl
        have cS := R_put hs3 (.loop (r .busy none)) hJ3.loop rfl
        have cB := below_put hJ3.below (.loop (r .busy none)) (l := W0.heap.size + 1) (by have := HSZ.out; omega)
        have cl := put_same (.loop (r .busy none)) hJ3.loop
        have cd' := put_other (.loop (r .busy none)) (k := W0.heap.size) (l := W0.heap.size + 1) (by omega) hJ3.coll
        have cX := put_other (.loop (r .busy none)) (k := bx) (l := W0.heap.size + 1) (by rintro rfl; have h := hJ3.loop; rw [hX3] at h; cases h) hX3
        rw [hWc] at c0' c1 co cb cS cB cl cd' cX ⊢
        clear hWc hJ3 bo3 hB3 hs3 hX3
        have x1 : Wc.cell? ⟨w.heap.size + 1 + 1, 0, none⟩ = _ := co.cell
        have x2 := (blk_cell cX 0).trans rfl
        have x3 := (blk_cell cX 1).trans rfl
        have x4 := (blk_cell cX 2).trans rfl
        gi_wp2_with (gi_at_builtin; refine wpListIn_of_one (by intro c hc; cases hc) (fun _ _ h => h) ?_; refine Kd.R_append k44 (w0 := w) w.heap.size rfl (.tmp 16) (.tmp 18) 28 44 (.agg #[.int .u32 0, .int .i64 0, .int .u32 0]) 24 rfl Tryd.underlying28 rinfo rfl (by decide) (by decide) (.slice Av pre.length cv) pre x [.int .u32 x.f0, .int .i64 x.f1, .int .u32 x.f2] (fun _ => True) (fun _ => False) rfl rfl ?aP ?aK ?aF ?aO ?aB ?aS ?aL ?_; (case aP => exact k44_mkM _ _ _ x); (case aK => exact fun _ h => h.elim); (case aF => exact fun _ _ => trivial); (case aO => exact cS); (case aB => exact cB); (case aS => exact cB.size); (case aL => omega); intro v1 w1 ho hb hg1 hat; obtain ⟨A1, c1', rfl⟩ := Kd.R_slice ho; have d0 := c0'.kept hg1 (Kd.R_ne cS c0' (by decide)); have d1 := c1.kept hg1 (Kd.R_ne cS c1 (by decide)); have do1 := co.kept hg1 (Kd.R_ne cS co (by decide)); have db1 := cb.kept hg1 (Kd.R_ne cS cb (by decide)); have dl1 := grown_heapR cS hg1 cl rfl; have dd1 := grown_heapR cS hg1 cd' rfl; clear c0' c1 co cb cl cd' cS cB cX x1 x2 x3 x4 hat hg1; have x1 : w1.cell? ⟨w.heap.size + 1 + 1, 0, none⟩ = _ := do1.cell; have x2 : w1.frozen? ⟨w.heap.size + 1 + 1, 0, none⟩ = _ := do1.frozen; refine wpList_back ?_)
        rw [show (pre ++ [x]).length = pre.length + 1 from by simp] at ho
        have e0 := boxed_set_other (B' := w.heap.size + 2) (.slice A1 (pre.length + 1) c1') d0 (by omega)
        have e1 := boxed_set_other (B' := w.heap.size + 2) (.slice A1 (pre.length + 1) c1') d1 (by omega)
        have eo := do1.set (.slice A1 (pre.length + 1) c1')
        have eb := boxed_set_other (B' := w.heap.size + 2) (.slice A1 (pre.length + 1) c1') db1 (by omega)
        have eS := Kd.R_set ho do1 (by decide) 0 (.slice A1 (pre.length + 1) c1')
        have el := set_heap (u := .slice A1 (pre.length + 1) c1') do1 dl1 rfl
        have ed := set_heap (u := .slice A1 (pre.length + 1) c1') do1 dd1 rfl
        have eB := hb.setCell (p := ⟨w.heap.size + 2, 0, none⟩) (show w.heap.size ≤ w.heap.size + 2 by omega) (.slice A1 (pre.length + 1) c1')
        refine ⟨el, rfl, ⟨boxed_put e0 _ el rfl, boxed_put e1 _ el rfl, ⟨A1, c1', ?_, ?_⟩, below_put eB _ (by have := HSZ.out; omega), put_same _ el, put_other _ (by omega) ed⟩, boxed_put eb _ el rfl⟩
        · rw [show (pre ++ [x]).length = pre.length + 1 from by simp]; exact boxed_put eo _ el rfl
        · rw [show (pre ++ [x]).length = pre.length + 1 from by simp]; exact R_put eS _ el rfl
      rintro e W' ⟨b, j, rfl, ⟨rfl, hJ4, hB4⟩, _⟩
      exact ⟨rfl, hJ4, hB4⟩
    case hY2 =>
      intro pre Wb x hJ hgo
      have e : rdR l0 = ([], 2) := by unfold rdR; rw [if_neg hl, hgo]
      have ga := below_alloc (Below.refl Wb.heap.size Wb) (.cells #[.int .u32 x.f0, .int .i64 x.f1, .int .u32 x.f2] 44)
      have hJ3 := hJ.grow ga
      have hX3 := blk_new Wb (.cells #[.int .u32 x.f0, .int .i64 x.f1, .int .u32 x.f2] 44)
      obtain ⟨rfl, rfl⟩ := Prod.mk.inj (e.symm.trans HRES.out)
      refine yieldAt_mono (rt_roundA (n := 3) (W1 := Wb.alloc (.cells #[.int .u32 x.f0, .int .i64 x.f1, .int .u32 x.f2] 44)) (fun b _ W' => b = false ∧ RdE w W0.heap.size (r .done (some .ret)) ([], 2) W') HRR.out hJ.loop hJ3.loop rfl
        { tmps := #[.slice A0 l0.length c0, undef, .pointer (some ⟨w.heap.size, 0, none⟩), .pointer (some ⟨w.heap.size + 1, 0, none⟩), .pointer (some ⟨w.heap.size + 1 + 1, 0, none⟩), .pointer (some ⟨Wb.heap.size, 0, none⟩), .bool false, .slice A0 l0.length c0, .int .i64 l0.length, .bool false, .slice A0 l0.length c0, .func (.func 40) #[] #[.pointer (some ⟨w.heap.size + 1 + 1 + 1, 0, none⟩)], .agg #[.int .u32 x.f0, .int .i64 x.f1, .int .u32 x.f2], .bool false, undef, undef, undef, undef, undef, undef, undef], defers := [] } ?asg2 ?bdy2) ?_
      case asg2 =>
        intro K hK
        gi_wp2
        exact hK
      case bdy2 =>
        obtain ⟨bx, hbx⟩ : ∃ b, Wb.heap.size = b := ⟨_, rfl⟩
        obtain ⟨W1, hW1⟩ : ∃ W, Wb.alloc (.cells #[.int .u32 x.f0, .int .i64 x.f1, .int .u32 x.f2] 44) = W := ⟨_, rfl⟩
        rw [hbx] at hX3 ⊢
        rw [hW1] at hX3 hJ3 ⊢
        clear hW1 hbx ga hJ
        obtain ⟨Wc, hWc⟩ : ∃ Wc, W1.putObj (W0.heap.size + 1) (.loop (r .busy none)) = Wc := ⟨_, rfl⟩
        have c0' := boxed_put hJ3.b0 (.loop (r .busy none)) hJ3.loop rfl
        have c1 := boxed_put hJ3.b1 (.loop (r .busy none)) hJ3.loop rfl
        have cB := below_put hJ3.below (.loop (r .busy none)) (l := W0.heap.size + 1) (by have := HSZ.out; omega)
        have cl := put_same (.loop (r .busy none)) hJ3.loop
        have cd' := put_other (.loop (r .busy none)) (k := W0.heap.size) (l := W0.heap.size + 1) (by omega) hJ3.coll
        rw [hWc] at c0' c1 cB cl cd' ⊢
        clear hWc hJ3 hX3
        have x4 := c0'.cell
        have x5 := c0'.frozen
        have x6 : ∀ u, (Wc.setCell ⟨w.heap.size, 0, none⟩ u).cell? ⟨w.heap.size + 1, 0, none⟩ = some (.int .i64 0) := fun u => (boxed_set_other (B' := w.heap.size) u c1 (by omega)).cell
        have x7 : ∀ u, (Wc.setCell ⟨w.heap.size, 0, none⟩ u).frozen? ⟨w.heap.size + 1, 0, none⟩ = false := fun u => (boxed_set_other (B' := w.heap.size) u c1 (by omega)).frozen
        have hE := rd_end (r := r) (D := W0.heap.size) (z := 2) (xs := []) c0' c1 (Kd.R_nil k44 44 Wc w.heap.size (fun _ => True)) cB cl cd' (by have := HSZ.out; omega)
        have HE := Lib.hid hE
        clear hE
        gi_wp2_with fail
        exact ⟨HE.out.1, rfl, HE.out.2⟩
      rintro e W' ⟨b, j, rfl, ⟨rfl, hE⟩, _⟩
      exact ⟨rfl, hE⟩
    case post =>
      rintro e W ⟨⟨v, rfl⟩, ⟨pre, hgo, hJ⟩ | ⟨hgo, hE⟩⟩
      · refine ⟨⟨v, rfl⟩, .inl ⟨hJ.loop, ?_⟩⟩
        have e : rdR l0 = (pre, 0) := by unfold rdR; rw [if_neg hl, hgo]
        obtain ⟨rfl, rfl⟩ := Prod.mk.inj (e.symm.trans HRES.out)
        clear e hgo
        obtain ⟨Av, cv, bo3, hs3⟩ := hJ.row
        have c0' := boxed_put hJ.b0 (.loop (r .exhausted none)) hJ.loop rfl
        have c1 := boxed_put hJ.b1 (.loop (r .exhausted none)) hJ.loop rfl
        have co := boxed_put bo3 (.loop (r .exhausted none)) hJ.loop rfl
        have cS := R_put hs3 (.loop (r .exhausted none)) hJ.loop rfl
        have cB := below_put hJ.below (.loop (r .exhausted none)) (l := W0.heap.size + 1) (by have := HSZ.out; omega)
        have cd' := put_other (.loop (r .exhausted none)) (k := W0.heap.size) (l := W0.heap.size + 1) (by omega) hJ.coll
        obtain ⟨Wc, hWc⟩ : ∃ Wc, W.putObj (W0.heap.size + 1) (.loop (r .exhausted none)) = Wc := ⟨_, rfl⟩
        rw [hWc] at c0' c1 co cS cB cd' ⊢
        clear hWc hJ bo3 hs3
        have x1 : Wc.cell? ⟨w.heap.size + 1 + 1, 0, none⟩ = _ := co.cell
        have x4 := c0'.cell
        have x5 := c0'.frozen
        have x6 : ∀ u, (Wc.setCell ⟨w.heap.size, 0, none⟩ u).cell? ⟨w.heap.size + 1, 0, none⟩ = some (.int .i64 0) := fun u => (boxed_set_other (B' := w.heap.size) u c1 (by omega)).cell
        have x7 : ∀ u, (Wc.setCell ⟨w.heap.size, 0, none⟩ u).frozen? ⟨w.heap.size + 1, 0, none⟩ = false := fun u => (boxed_set_other (B' := w.heap.size) u c1 (by omega)).frozen
        have d1 := boxed_set_other (B' := w.heap.size) (.slice Av pre.length cv) c1 (by omega)
        have e0 := boxed_set_other (B' := w.heap.size + 1) (.int .i64 0) (c0'.set (.slice Av pre.length cv)) (by omega)
        have e1 := d1.set (.int .i64 0)
        have eS := Kd.R_set (Kd.R_set cS c0' (by decide) 0 (.slice Av pre.length cv)) d1 (by decide) 0 (.int .i64 0)
        have ed := set_heap (u := .int .i64 0) d1 (set_heap (u := .slice Av pre.length cv) c0' cd' rfl) rfl
        have eB := (cB.setCell (p := ⟨w.heap.size, 0, none⟩) (Nat.le_refl _) (.slice Av pre.length cv)).setCell (p := ⟨w.heap.size + 1, 0, none⟩) (Nat.le_succ _) (.int .i64 0)
        have HED := Lib.hid ed
        have HES := Lib.hid eS
        have HE0 := Lib.hid e0
        have HE1 := Lib.hid e1
        have HEB := Lib.hid eB
        clear ed eS e0 e1 eB d1 c0' c1 co cS cB cd'
        gi_wp2_with fail
        refine ⟨by simp, .inl ⟨_, _, rfl, run_takeDeferred HED.out, ?_⟩⟩
        exact ⟨_, rd_results rfl rfl (boxed_put HE0.out _ HED.out rfl) (boxed_put HE1.out _ HED.out rfl), _, rfl, R_put HES.out _ HED.out rfl, below_put HEB.out _ (by have := HSZ.out; omega)⟩
      · refine ⟨⟨v, rfl⟩, .inr ⟨.ret, hE.loop, ?_⟩⟩
        obtain ⟨Av, cv, bo3, hs3⟩ := hE.row
        have c0' := boxed_put bo3 (.loop (r .exhausted (some .ret))) hE.loop rfl
        have c1 := boxed_put hE.b1 (.loop (r .exhausted (some .ret))) hE.loop rfl
        have cS := R_put hs3 (.loop (r .exhausted (some .ret))) hE.loop rfl
        have cB := below_put hE.below (.loop (r .exhausted (some .ret))) (l := W0.heap.size + 1) (by have := HSZ.out; omega)
        have cd' := put_other (.loop (r .exhausted (some .ret))) (k := W0.heap.size) (l := W0.heap.size + 1) (by omega) hE.coll
        obtain ⟨Wc, hWc⟩ : ∃ Wc, W.putObj (W0.heap.size + 1) (.loop (r .exhausted (some .ret))) = Wc := ⟨_, rfl⟩
        rw [hWc] at c0' c1 cS cB cd' ⊢
        clear hWc hE bo3 hs3
        gi_wp2
        refine ⟨by simp, .inl ⟨_, _, rfl, run_takeDeferred cd', ?_⟩⟩
        exact ⟨_, rd_results rfl rfl (boxed_put c0' _ cd' rfl) (boxed_put c1 _ cd' rfl), _, rfl, R_put cS _ cd' rfl, below_put cB _ (by have := HSZ.out; omega)⟩
end Go.Proofs.YtdpoknfidlekbaaDoor
end

section
namespace Go.Proofs.YtdpoknfidlekbaaDoor.PR
open Go.RowKit Go.Proofs.YtdpoknfidlekbaaDoor Go.Proofs.YtdpoknfidlekbaaDoor.Pr Go.Proofs.YtdpoknfidlekbaaDoorW.PrintWords Go.Proofs.YtdpoknfidlekbaaDoorW.PrintLast Go.Proofs.YtdpoknfidlekbaaDoorW.PrintMore
set_option linter.unusedVariables false
set_option linter.unusedSimpArgs false

def encRR (l : List Rt) : List Int × Int := if ∀ x ∈ l, okR x then (if 255 < (rtEnc l).length then ([], 3) else (rtEnc l, 0)) else ([], 1)
theorem enc_eq (l : List Rt) (hl : l.length ≤ 1048576) (hu : ∀ x ∈ l, okU x.f0 ∧ okU x.f2) : route_Encode.f l = some (encRR l) := by
  unfold route_Encode.f encRR
  rw [if_pos ⟨by omega, fun x hx => hu x hx⟩]
  have e : (∀ x ∈ l, rtRight x = true) ↔ (∀ x ∈ l, okR x) := by
    constructor
    · intro h x hx
      have := h x hx
      rw [rtRight_eq x (hu x hx).1] at this
      exact of_decide_eq_true this
    · intro h x hx
      rw [rtRight_eq x (hu x hx).1]
      exact decide_eq_true (h x hx)
  by_cases c : ∀ x ∈ l, okR x
  · rw [if_pos (e.2 c), if_pos c]
  · rw [if_neg (fun h => c (e.1 h)), if_neg c]
def bytesR (l : List Int) : Prop := ∀ x ∈ l, 0 ≤ x ∧ x ≤ 255
theorem bytesR_get {l : List Int} (h : bytesR l) (j : Nat) : 0 ≤ l.getD j 0 ∧ l.getD j 0 ≤ 255 := by
  rw [List.getD_eq_getElem?_getD]
  cases hj : l[j]? with
  | none => simp
  | some v => exact h v (List.mem_of_getElem? hj)
theorem ofR_in {l : List Int} (h : bytesR l) : okU (ofR l) := by
  have h0 := bytesR_get h 0
  have h1 := bytesR_get h 1
  have h2 := bytesR_get h 2
  have h3 := bytesR_get h 3
  unfold okU ofR
  omega
theorem rd_int (l : List Int) (i : Nat) : rd l (i : Int) = l.getD i 0 := by
  unfold rd
  rw [Int.toNat_natCast]
/-! ### the reference's number of bytes -/
/-! ### the reference's Decode -/
theorem wrapN (x : Int) (n : Nat) (h : x = (n : Int)) (h1 : n < 9223372036854775808) : wrap64 x = (n : Int) := by rw [h]; exact wrapR (by omega) (by omega)
theorem wraps5 (i on : Nat) (hi : i ≤ 1000) (ho : on ≤ 4) : wrap64 ((i : Int) + 1) = ((i + 1 : Nat) : Int) ∧ wrap64 (((i + 1 : Nat) : Int) + (on : Int)) = ((i + 1 + on : Nat) : Int) ∧ wrap64 ((i : Int) + 5) = ((i + 5 : Nat) : Int) ∧ wrap64 (((i + 5 : Nat) : Int) + (on : Int)) = ((i + 5 + on : Nat) : Int) ∧ wrap64 (((i + 1 + on : Nat) : Int) + 4) = ((i + 5 + on : Nat) : Int) :=
  ⟨wrapN _ _ (by omega) (by omega), wrapN _ _ (by omega) (by omega), wrapN _ _ (by omega) (by omega), wrapN _ _ (by omega) (by omega), wrapN _ _ (by omega) (by omega)⟩
def rdAns (o : Option (List Rt)) : List Rt × Int := match o with | some m => (m, 0) | none => ([], 2)
theorem rtOct_le {x : Int} (h0 : 0 ≤ x) (h1 : x ≤ 32) : rtOct x ≤ 4 := by unfold rtOct; omega
theorem oct_wrap {x : Int} (h0 : 0 ≤ x) (h1 : x ≤ 255) : wrap64 (Int.tdiv (wrap64 ((wrap64 x) + 7)) 8) = (rtOct x : Int) := by
  rw [wrapR (x := x) (by omega) (by omega), wrapR (x := x + 7) (by omega) (by omega), Int.tdiv_eq_ediv_of_nonneg (by omega), wrapR (by omega) (by omega)]
  unfold rtOct
  omega
theorem dec_eq (b : List Int) (hb : bytesR b) (hl : b.length ≤ 1000000) : route_Decode.f b = some (rdR b) := by
  unfold route_Decode.f
  rw [if_pos ⟨hb, by omega⟩]
end Go.Proofs.YtdpoknfidlekbaaDoor.PR
end

section
namespace Go.Proofs.YtdpoknfidlekbaaDoor.PR
open Go.RowKit Go.Proofs.YtdpoknfidlekbaaDoor Go.Proofs.YtdpoknfidlekbaaDoor.Pr Go.Proofs.YtdpoknfidlekbaaDoorW.PrintWords Go.Proofs.YtdpoknfidlekbaaDoorW.PrintLast Go.Proofs.YtdpoknfidlekbaaDoorW.PrintMore
set_option linter.unusedVariables false
set_option linter.unusedSimpArgs false

theorem rt4_len (a : Int) : (rt4 a).length = 4 := rfl
theorem ofR_rt4 {a : Int} (h : okU a) : ofR (rt4 a) = a := by
  obtain ⟨h0, h1⟩ := h
  have e : ofR (rt4 a) = ((rtB a 0 * 256 + rtB a 1) * 256 + rtB a 2) * 256 + rtB a 3 := rfl
  rw [e]
  unfold rtB
  have b0 : a / 256 ^ (3 - 0) = a / 16777216 := rfl
  have b1 : a / 256 ^ (3 - 1) = a / 65536 := rfl
  have b2 : a / 256 ^ (3 - 2) = a / 256 := rfl
  have b3 : a / 256 ^ (3 - 3) = a / 1 := rfl
  rw [b0, b1, b2, b3]
  omega
theorem ofR_take {a : Int} {o : Nat} (h : okU a) (ho : o ≤ 4) (hz : a.toNat % 256 ^ (4 - o) = 0) : ofR ((rt4 a).take o) = a := by
  obtain ⟨h0, h1⟩ := h
  have b0 : rtB a 0 = a / 16777216 % 256 := rfl
  have b1 : rtB a 1 = a / 65536 % 256 := rfl
  have b2 : rtB a 2 = a / 256 % 256 := rfl
  have b3 : rtB a 3 = a / 1 % 256 := rfl
  obtain rfl | rfl | rfl | rfl | rfl : o = 0 ∨ o = 1 ∨ o = 2 ∨ o = 3 ∨ o = 4 := by omega
  · have e : ofR ((rt4 a).take 0) = ((0 * 256 + 0) * 256 + 0) * 256 + 0 := rfl
    rw [e]
    rw [show 256 ^ (4 - 0) = 4294967296 from rfl] at hz
    omega
  · have e : ofR ((rt4 a).take 1) = ((rtB a 0 * 256 + 0) * 256 + 0) * 256 + 0 := rfl
    rw [e, b0]
    rw [show 256 ^ (4 - 1) = 16777216 from rfl] at hz
    omega
  · have e : ofR ((rt4 a).take 2) = ((rtB a 0 * 256 + rtB a 1) * 256 + 0) * 256 + 0 := rfl
    rw [e, b0, b1]
    rw [show 256 ^ (4 - 2) = 65536 from rfl] at hz
    omega
  · have e : ofR ((rt4 a).take 3) = ((rtB a 0 * 256 + rtB a 1) * 256 + rtB a 2) * 256 + 0 := rfl
    rw [e, b0, b1, b2]
    rw [show 256 ^ (4 - 3) = 256 from rfl] at hz
    omega
  · have e : ofR ((rt4 a).take 4) = ((rtB a 0 * 256 + rtB a 1) * 256 + rtB a 2) * 256 + rtB a 3 := rfl
    rw [e, b0, b1, b2, b3]
    omega
theorem net_zero {x : Rt} (h : okR x) : x.f0.toNat % 256 ^ (4 - rtOct x.f1) = 0 := by
  obtain ⟨h0, h1, h2⟩ := h
  have ho := rtOct_le h0 h1
  have hd : 256 ^ (4 - rtOct x.f1) ∣ 2 ^ sh x := by
    rw [show (256 : Nat) = 2 ^ 8 from rfl, ← Nat.pow_mul]
    exact Nat.pow_dvd_pow 2 (by unfold sh; unfold rtOct at ho ⊢; omega)
  exact Nat.mod_eq_zero_of_dvd (Nat.dvd_trans hd (Nat.dvd_of_mod_eq_zero h2))
theorem rdGo_enc : ∀ (l pre : List Rt), (∀ x ∈ l, okR x) → (∀ x ∈ l, okU x.f0 ∧ okU x.f2) → rdGo (rtEnc l) pre = some (pre ++ l) := by
  intro l
  induction l with
  | nil => intro pre _ _; rw [show rtEnc [] = [] from rfl, rdGo_nil, List.append_nil]
  | cons x l ih =>
    intro pre hr hu
    have hx := hr x (by simp)
    have ux := hu x (by simp)
    have ho := rtOct_le hx.1 hx.2.1
    have hlen : ((rt4 x.f0).take (rtOct x.f1)).length = rtOct x.f1 := by rw [List.length_take, rt4_len]; omega
    have hm : x.f1 % 256 = x.f1 := by have := hx.1; have := hx.2.1; omega
    obtain ⟨r, hrr⟩ : ∃ r, (rt4 x.f0).take (rtOct x.f1) ++ (rt4 x.f2 ++ rtEnc l) = r := ⟨_, rfl⟩
    have e : rtEnc (x :: l) = x.f1 :: r := by
      rw [← hrr]
      unfold rtEnc
      rw [List.map_cons, List.flatten_cons]
      unfold rtEnc1
      rw [hm]
      simp only [List.append_assoc, List.cons_append, List.nil_append]
    have t1 : r.take (rtOct x.f1) = (rt4 x.f0).take (rtOct x.f1) := by rw [← hrr, List.take_append_of_le_length (by omega), List.take_of_length_le (by omega)]
    have t2 : r.drop (rtOct x.f1) = rt4 x.f2 ++ rtEnc l := by rw [← hrr, List.drop_append_of_le_length (by omega), List.drop_of_length_le (by omega), List.nil_append]
    have t4 : (r.drop (rtOct x.f1)).take 4 = rt4 x.f2 := by rw [t2, List.take_append_of_le_length (by rw [rt4_len]; omega), List.take_of_length_le (by rw [rt4_len]; omega)]
    have hX : rtRd x.f1 r = x := by
      unfold rtRd
      rw [t1, t4, ofR_take ux.1 ho (net_zero hx), ofR_rt4 ux.2]
    have t3 : r.drop (rtOct x.f1 + 4) = rtEnc l := by
      rw [← List.drop_drop, t2, List.drop_append_of_le_length (by rw [rt4_len]; omega), List.drop_of_length_le (by rw [rt4_len]; omega), List.nil_append]
    have hrl : rtOct x.f1 + 4 ≤ r.length := by rw [← hrr, List.length_append, List.length_append, hlen, rt4_len]; omega
    have hc := hx.2.1
    rw [e, rdGo_step (by omega) (by rw [hX, rtRight_eq x ux.1]; exact decide_eq_true hx), t3, hX, ih (pre ++ [x]) (fun y hy => hr y (List.mem_cons_of_mem _ hy)) (fun y hy => hu y (List.mem_cons_of_mem _ hy)), List.append_assoc]
    rfl
theorem rt4_ofR (q : List Int) (h : bytesR q) (hl : q.length ≤ 4) : (rt4 (ofR q)).take q.length = q := by
  have g0 := bytesR_get h 0
  have g1 := bytesR_get h 1
  have g2 := bytesR_get h 2
  have g3 := bytesR_get h 3
  have b0 : rtB (ofR q) 0 = ofR q / 16777216 % 256 := rfl
  have b1 : rtB (ofR q) 1 = ofR q / 65536 % 256 := rfl
  have b2 : rtB (ofR q) 2 = ofR q / 256 % 256 := rfl
  have b3 : rtB (ofR q) 3 = ofR q / 1 % 256 := rfl
  have hf : ofR q = ((q.getD 0 0 * 256 + q.getD 1 0) * 256 + q.getD 2 0) * 256 + q.getD 3 0 := rfl
  have r0 : rtB (ofR q) 0 = q.getD 0 0 := by omega
  have r1 : rtB (ofR q) 1 = q.getD 1 0 := by omega
  have r2 : rtB (ofR q) 2 = q.getD 2 0 := by omega
  have r3 : rtB (ofR q) 3 = q.getD 3 0 := by omega
  unfold rt4
  rw [r0, r1, r2, r3]
  match q, hl with
  | [], _ => rfl
  | [a], _ => rfl
  | [a, b], _ => rfl
  | [a, b, c], _ => rfl
  | [a, b, c, d], _ => rfl
  | a :: b :: c :: d :: e :: r, hl => simp at hl
theorem rdGo_back : ∀ (n : Nat) (b : List Int) (pre m : List Rt), b.length ≤ n → bytesR b → rdGo b pre = some m → ∃ q, m = pre ++ q ∧ rtEnc q = b ∧ ∀ x ∈ q, okR x ∧ okU x.f0 ∧ okU x.f2 := by
  intro n
  induction n with
  | zero =>
    intro b pre m hn hb h
    obtain rfl : b = [] := List.length_eq_zero_iff.1 (by omega)
    rw [rdGo_nil] at h
    cases h
    exact ⟨[], by simp, rfl, by simp⟩
  | succ n ih =>
    intro b pre m hn hb h
    cases b with
    | nil =>
      rw [rdGo_nil] at h
      cases h
      exact ⟨[], by simp, rfl, by simp⟩
    | cons x r =>
      by_cases c : 32 < x ∨ r.length < rtOct x + 4
      · rw [rdGo_short c] at h; cases h
      · have hx : 0 ≤ x ∧ x ≤ 255 := hb x (by simp)
        have ho := rtOct_le hx.1 (by omega)
        have hbr : bytesR r := fun y hy => hb y (List.mem_cons_of_mem _ hy)
        have hb1 : bytesR (r.take (rtOct x)) := fun y hy => hbr y (List.mem_of_mem_take hy)
        have hb2 : bytesR ((r.drop (rtOct x)).take 4) := fun y hy => hbr y (List.mem_of_mem_drop (List.mem_of_mem_take hy))
        have u1 : okU (rtRd x r).f0 := ofR_in hb1
        have u2 : okU (rtRd x r).f2 := ofR_in hb2
        by_cases c2 : rtRight (rtRd x r) = true
        · rw [rdGo_step c c2] at h
          obtain ⟨q, hq, he, ha⟩ := ih (r.drop (rtOct x + 4)) (pre ++ [rtRd x r]) m (by rw [List.length_drop]; simp only [List.length_cons] at hn; omega) (fun y hy => hbr y (List.mem_of_mem_drop hy)) h
          refine ⟨rtRd x r :: q, by rw [hq, List.append_assoc]; rfl, ?_, ?_⟩
          · have l1 : (r.take (rtOct x)).length = rtOct x := by rw [List.length_take]; omega
            have l2 : ((r.drop (rtOct x)).take 4).length = 4 := by rw [List.length_take, List.length_drop]; omega
            have e1 := rt4_ofR _ hb1 (by omega)
            have e2 := rt4_ofR _ hb2 (by omega)
            rw [l1] at e1
            rw [l2, List.take_of_length_le (by rw [rt4_len]; omega)] at e2
            have e0 : rtEnc1 (rtRd x r) = x :: (r.take (rtOct x) ++ (r.drop (rtOct x)).take 4) := by
              show [x % 256] ++ (rt4 (ofR (r.take (rtOct x)))).take (rtOct x) ++ rt4 (ofR ((r.drop (rtOct x)).take 4)) = _
              rw [e1, e2, show x % 256 = x by omega]
              rfl
            have e3 : rtEnc (rtRd x r :: q) = rtEnc1 (rtRd x r) ++ rtEnc q := by unfold rtEnc; rw [List.map_cons, List.flatten_cons]
            rw [e3, e0, he, List.cons_append, List.append_assoc, ← List.drop_drop, List.take_append_drop, List.take_append_drop]
          · intro y hy
            rcases List.mem_cons.1 hy with rfl | hy
            · exact ⟨by rw [rtRight_eq _ u1] at c2; exact of_decide_eq_true c2, u1, u2⟩
            · exact ha y hy
        · rw [rdGo_wrong c (by simpa using c2)] at h; cases h
end Go.Proofs.YtdpoknfidlekbaaDoor.PR
end

section
-- written by a program of this session (wip/tools/gen.py) over the kit's print
namespace Go.Proofs.YtdpoknfidlekbaaDoor.Pr
open Go.RowKit Go.Proofs.YtdpoknfidlekbaaDoorW.PrintWords Go.Proofs.YtdpoknfidlekbaaDoorW.PrintLast Go.Proofs.YtdpoknfidlekbaaDoorW.PrintMore
attribute [local go_sem] max2_int min2_int max_two min_two max_three min_three max_four min_four   -- for this text's walks alone
set_option linter.unusedVariables false
set_option linter.unusedSimpArgs false

/-! ### option_Encode_1: function 28 -/
def option_Encode_1.f (a0_0 : Int) (l0_1 : List Int) : Option (Bool) := if a0_0 ≤ 0 then (some true) else (if a0_0 ≥ 255 then (some true) else (some (decide ((l0_1.length : Int) > 255))))
set_option maxHeartbeats 8000000 in
set_option maxRecDepth 100000 in
theorem option_Encode_1.calls (a0_0 : Int) (A0_1 : Option Addr) (c0_1 : Nat) (l0_1 : List Int) (r : Bool) (w : World) (hr0_1 : Kd.C (Kd.int .u8) w A0_1 l0_1.length l0_1) (hc0_1 : l0_1.length ≤ c0_1) (h : option_Encode_1.f a0_0 l0_1 = some r) :
  Calls Tryd.prog 28 #[.agg #[.int .i64 a0_0, .slice A0_1 l0_1.length c0_1]] w fun e w' => e = .returned (.bool r) ∧ Below w.heap.size w w' := by
 have hu53 := Tryd.underlying53
 have HR0_1 := Aside0.mk hr0_1
 have HC0_1 := Aside0.mk hc0_1
 clear hr0_1 hc0_1
 have HB := Aside0.mk (Below.refl w.heap.size w)
 have H : (if a0_0 ≤ 0 then (some true) else (if a0_0 ≥ 255 then (some true) else (some (decide ((l0_1.length : Int) > 255))))) = some r := h
 clear h
 by_cases c2 : a0_0 ≤ 0
 ·rw [if_pos c2] at H
  have c2b0 : decide (a0_0 ≤ 0) = true := decide_eq_true c2
  clear c2
  obtain rfl := Option.some.inj H
  go_enter Tryd.func28, Tryd.ntmps28
  go_wp2_with (first | ((with_reducible refine gate_dst (N := 1) rfl ?_); (try (refine gate_guard (by rfl) ?_; dsimp only)); refine box_event ?hg_1 (N := 1) ?hd_1 (cs := #[.int .i64 a0_0, .slice A0_1 l0_1.length c0_1]) (t := 53) ?hr_1 ?_; (case hd_1 => rfl); (case hg_1 => rfl); (case hr_1 => first | (go_simp; done) | (go_simp; rfl)); intro gb101 hg w3 hbox hb; have n0_ := Aside0.mk (below_step (by repeat (first | (with_reducible first | exact HB.out | apply below_alloc | apply pw_below_drewN | apply below_drew1) | exact HB.out)) hb); have n1_ := Aside0.mk (hbox); have n2_ := Aside0.mk ((by rw [hg]; exact (below_size (by repeat (first | (with_reducible first | exact HB.out | apply below_alloc | apply pw_below_drewN | apply below_drew1) | exact HB.out))) : w.heap.size ≤ gb101)); have n3_ := Aside0.mk ((by rw [hg]; exact (below_size (by repeat (first | (with_reducible first | exact HB.out | apply below_alloc | apply pw_below_drewN | apply below_drew1) | exact HB.out))) : w.heap.size ≤ gb101)); clear HB; have HB := n0_; have BK101 := n1_; have GW101 := n2_; have GE101 := n3_; clear n0_ n1_ n2_ n3_; clear hb hbox hg; have hcz4_0 : w3.cell? ⟨gb101, 0, none⟩ = some (.int .i64 a0_0) := (blk_cell BK101.out 0).trans rfl; have hcz4_1 : w3.cell? ⟨gb101, 1, none⟩ = some (.slice A0_1 l0_1.length c0_1) := (blk_cell BK101.out 1).trans rfl; have hfz4_0 := blk_frozen BK101.out 0; have hfz4_1 := blk_frozen BK101.out 1))
  go_ret
  exact ⟨by first | rfl | (simp [errW_none, errW_some] <;> rfl) | (simp [*, errW_none, errW_some] <;> rfl), by repeat (first | (with_reducible first | exact HB.out | apply below_alloc | apply pw_below_drewN | apply below_drew1 | refine below_set ?_ GE101.out) | exact HB.out)⟩
 ·rw [if_neg c2] at H
  have c2b0 : decide (a0_0 ≤ 0) = false := decide_eq_false c2
  clear c2
  by_cases c5 : a0_0 ≥ 255
  ·rw [if_pos c5] at H
   have c5b0 : decide (255 ≤ a0_0) = true := decide_eq_true c5
   clear c5
   obtain rfl := Option.some.inj H
   go_enter Tryd.func28, Tryd.ntmps28
   go_wp2_with (first | ((with_reducible refine gate_dst (N := 1) rfl ?_); (try (refine gate_guard (by rfl) ?_; dsimp only)); refine box_event ?hg_2 (N := 1) ?hd_2 (cs := #[.int .i64 a0_0, .slice A0_1 l0_1.length c0_1]) (t := 53) ?hr_2 ?_; (case hd_2 => rfl); (case hg_2 => rfl); (case hr_2 => first | (go_simp; done) | (go_simp; rfl)); intro gb101 hg w6 hbox hb; have n0_ := Aside0.mk (below_step (by repeat (first | (with_reducible first | exact HB.out | apply below_alloc | apply pw_below_drewN | apply below_drew1) | exact HB.out)) hb); have n1_ := Aside0.mk (hbox); have n2_ := Aside0.mk ((by rw [hg]; exact (below_size (by repeat (first | (with_reducible first | exact HB.out | apply below_alloc | apply pw_below_drewN | apply below_drew1) | exact HB.out))) : w.heap.size ≤ gb101)); have n3_ := Aside0.mk ((by rw [hg]; exact (below_size (by repeat (first | (with_reducible first | exact HB.out | apply below_alloc | apply pw_below_drewN | apply below_drew1) | exact HB.out))) : w.heap.size ≤ gb101)); clear HB; have HB := n0_; have BK101 := n1_; have GW101 := n2_; have GE101 := n3_; clear n0_ n1_ n2_ n3_; clear hb hbox hg; have hcz7_0 : w6.cell? ⟨gb101, 0, none⟩ = some (.int .i64 a0_0) := (blk_cell BK101.out 0).trans rfl; have hcz7_1 : w6.cell? ⟨gb101, 1, none⟩ = some (.slice A0_1 l0_1.length c0_1) := (blk_cell BK101.out 1).trans rfl; have hfz7_0 := blk_frozen BK101.out 0; have hfz7_1 := blk_frozen BK101.out 1))
   go_ret
   exact ⟨by first | rfl | (simp [errW_none, errW_some] <;> rfl) | (simp [*, errW_none, errW_some] <;> rfl), by repeat (first | (with_reducible first | exact HB.out | apply below_alloc | apply pw_below_drewN | apply below_drew1 | refine below_set ?_ GE101.out) | exact HB.out)⟩
  ·rw [if_neg c5] at H
   have c5b0 : decide (255 ≤ a0_0) = false := decide_eq_false c5
   clear c5
   obtain rfl := Option.some.inj H
   go_enter Tryd.func28, Tryd.ntmps28
   go_wp2_with (first | ((with_reducible refine gate_dst (N := 1) rfl ?_); (try (refine gate_guard (by rfl) ?_; dsimp only)); refine box_event ?hg_3 (N := 1) ?hd_3 (cs := #[.int .i64 a0_0, .slice A0_1 l0_1.length c0_1]) (t := 53) ?hr_3 ?_; (case hd_3 => rfl); (case hg_3 => rfl); (case hr_3 => first | (go_simp; done) | (go_simp; rfl)); intro gb101 hg w8 hbox hb; have n0_ := Aside0.mk (below_step (by repeat (first | (with_reducible first | exact HB.out | apply below_alloc | apply pw_below_drewN | apply below_drew1) | exact HB.out)) hb); have n1_ := Aside0.mk (hbox); have n2_ := Aside0.mk ((by rw [hg]; exact (below_size (by repeat (first | (with_reducible first | exact HB.out | apply below_alloc | apply pw_below_drewN | apply below_drew1) | exact HB.out))) : w.heap.size ≤ gb101)); have n3_ := Aside0.mk ((by rw [hg]; exact (below_size (by repeat (first | (with_reducible first | exact HB.out | apply below_alloc | apply pw_below_drewN | apply below_drew1) | exact HB.out))) : w.heap.size ≤ gb101)); clear HB; have HB := n0_; have BK101 := n1_; have GW101 := n2_; have GE101 := n3_; clear n0_ n1_ n2_ n3_; clear hb hbox hg; have hcz9_0 : w8.cell? ⟨gb101, 0, none⟩ = some (.int .i64 a0_0) := (blk_cell BK101.out 0).trans rfl; have hcz9_1 : w8.cell? ⟨gb101, 1, none⟩ = some (.slice A0_1 l0_1.length c0_1) := (blk_cell BK101.out 1).trans rfl; have hfz9_0 := blk_frozen BK101.out 0; have hfz9_1 := blk_frozen BK101.out 1))
   go_ret
   exact ⟨by first | rfl | (simp [errW_none, errW_some] <;> rfl) | (simp [*, errW_none, errW_some] <;> rfl), by repeat (first | (with_reducible first | exact HB.out | apply below_alloc | apply pw_below_drewN | apply below_drew1 | refine below_set ?_ GE101.out) | exact HB.out)⟩

end Go.Proofs.YtdpoknfidlekbaaDoor.Pr
end

section
-- written by a program of this session (wip/tools/gen.py) over the kit's print
namespace Go.Proofs.YtdpoknfidlekbaaDoor.Pr
open Go.RowKit Go.Proofs.YtdpoknfidlekbaaDoorW.PrintWords Go.Proofs.YtdpoknfidlekbaaDoorW.PrintLast Go.Proofs.YtdpoknfidlekbaaDoorW.PrintMore
attribute [local go_sem] max2_int min2_int max_two min_two max_three min_three max_four min_four   -- for this text's walks alone
set_option linter.unusedVariables false
set_option linter.unusedSimpArgs false

/-! ### slices_IndexFunc: function 18 -/
def slices_IndexFunc.l0 : Nat → List (S53) → Int → Int → Option (Int)
 | 0, _, _, _ => none
 | k + 1, x0, x7, x8 => if x8 < x7 then (if 0 ≤ x8 then (if x8 < (x0.length : Int) then ((option_Encode_1.f ((rd_T53 x0 x8).f0) ((rd_T53 x0 x8).f1)).bind fun t103 => (if t103 = true then (some x8) else (slices_IndexFunc.l0 k x0 x7 (wrap64 (x8 + 1))))) else (none)) else (none)) else (some (-1))
def slices_IndexFunc.f (k : Nat) (l0 : List (S53)) (a1 : Int) : Option (Int) := slices_IndexFunc.l0 k l0 (l0.length : Int) 0
theorem slices_IndexFunc.mono_l : ∀ k, (∀ y0 y1 y2, LeO (slices_IndexFunc.l0 k y0 y1 y2) (slices_IndexFunc.l0 (k + 1) y0 y1 y2))
 | 0 => fun _ _ _ r h => by simp [slices_IndexFunc.l0] at h
 | k + 1 => by
  have ih0 := slices_IndexFunc.mono_l k
  ·intro y0 y1 y2
   unfold slices_IndexFunc.l0
   repeat' first
   | (with_reducible exact ih0 _ _ _)
   | (with_reducible exact LeO.refl _)
   | (with_reducible exact LeO.none _)
   | (with_reducible refine LeO.ite ?_ ?_)
   | (with_reducible refine LeO.bind ?_ (fun _ => ?_))
   | exact ih0 _ _ _
   | exact LeO.none _
   | refine LeO.ite ?_ ?_
   | refine LeO.bind ?_ (fun _ => ?_)
theorem slices_IndexFunc.mono : ∀ a0 a1 k, LeO (slices_IndexFunc.f k a0 a1) (slices_IndexFunc.f (k + 1) a0 a1) := by
 intro a0 a1 k
 have ih0 := slices_IndexFunc.mono_l k
 unfold slices_IndexFunc.f
 repeat' first
   | (with_reducible exact ih0 _ _ _)
   | (with_reducible exact LeO.refl _)
   | (with_reducible exact LeO.none _)
   | (with_reducible refine LeO.ite ?_ ?_)
   | (with_reducible refine LeO.bind ?_ (fun _ => ?_))
   | exact ih0 _ _ _
   | exact LeO.none _
   | refine LeO.ite ?_ ?_
   | refine LeO.bind ?_ (fun _ => ?_)
set_option maxHeartbeats 8000000 in
set_option maxRecDepth 100000 in
theorem slices_IndexFunc.calls (k : Nat) (A0 : Option Addr) (c0 : Nat) (l0 : List (S53)) (a1 : Int) (r : Int) (w : World) (hr0 : Kd.C k53 w A0 l0.length l0) (hc0 : l0.length ≤ c0) (h : slices_IndexFunc.f k l0 a1 = some r) :
  Calls Tryd.prog 18 #[.slice A0 l0.length c0, .func (.func 28) #[] #[]] w fun e w' => e = .returned (.int .i64 r) ∧ Below w.heap.size w w' := by
 have hu53 := Tryd.underlying53
 have HR0 := Aside0.mk hr0
 have HC0 := Aside0.mk hc0
 clear hr0 hc0
 have HB := Aside0.mk (Below.refl w.heap.size w)
 have H : (slices_IndexFunc.l0 k l0 (l0.length : Int) 0) = some r := h
 clear h
 have H' := Aside0.mk H
 clear H
 go_enter Tryd.func18, Tryd.ntmps18
 go_wp2
 go_loopg [8] k (fun kq v8 w' => ∃ (x8_1 : Int), v8 = .int .i64 x8_1 ∧ Aside0 (slices_IndexFunc.l0 kq l0 (l0.length : Int) x8_1 = some r) ∧ Aside0 (kq ≤ k) ∧ Aside0 (Below w.heap.size w w'))
 case atStart => exact ⟨(0), (by first | rfl | (simp; done) | (simp [*]; done)), H', ⟨Nat.le_refl _⟩, ⟨by repeat (first | (with_reducible first | exact HB.out | apply below_alloc | apply pw_below_drewN | apply below_drew1) | exact HB.out)⟩⟩
 case round =>
  clear H'
  try clear c1
  try clear p2
  obtain ⟨x8_1, rfl, HA, HK1, HB⟩ := hrel
  cases gk with
  | zero => exact absurd HA.out (by simp [slices_IndexFunc.l0])
  | succ k1 =>
   have H := HA.out
   clear HA
   simp only [slices_IndexFunc.l0] at H
   by_cases c3 : x8_1 < (l0.length : Int)
   ·rw [if_pos c3] at H
    have c3b0 : decide (x8_1 < (l0.length : Int)) = true := decide_eq_true c3
    clear c3
    by_cases c4 : 0 ≤ x8_1
    ·rw [if_pos c4] at H
     have c4b0 : decide (0 ≤ x8_1) = true := decide_eq_true c4
     clear c4
     by_cases c5 : x8_1 < (l0.length : Int)
     ·rw [if_pos c5] at H
      have c5b0 : decide (x8_1 < (l0.length : Int)) = true := decide_eq_true c5
      clear c5
      replace H := Option.bind_eq_some_iff.mp H
      obtain ⟨t103, A60, H⟩ := H
      replace H : (if t103 = true then (some x8_1) else (slices_IndexFunc.l0 k1 l0 (l0.length : Int) (wrap64 (x8_1 + 1)))) = some r := H
      have A6 := Aside0.mk A60
      clear A60
      by_cases c7 : t103 = true
      ·subst c7
       have H1 : (some x8_1) = some r := by rw [if_pos rfl] at H; exact H
       clear H
       have H := H1
       clear H1
       obtain rfl := Option.some.inj H
       have p102 : 0 ≤ (x8_1 : Int) := of_decide_eq_true (by first | (with_reducible assumption) | assumption)
       have q102 : x8_1 < (l0.length : Int) := of_decide_eq_true (by first | (with_reducible assumption) | assumption)
       obtain ⟨ad102, A102_1, c102_1, e102, hx102_0, hx102_1, hl102_1, hi102_1⟩ := at_T53 HR0.out x8_1 p102 q102
       cases e102
       replace hx102_0 := (HB.out.cell (World.block_lt_of_cell? w _ hx102_0)).trans hx102_0
       replace hx102_1 := (HB.out.cell (World.block_lt_of_cell? w _ hx102_1)).trans hx102_1
       have HR102_1 := Aside0.mk hi102_1
       have HC102_1 := Aside0.mk hl102_1
       clear hi102_1 hl102_1
       replace p102 := eq_true p102
       replace q102 := eq_true q102
       go_wp2_with (first | (go_at_call 28; (with_reducible refine (option_Encode_1.calls ((rd_T53 l0 x8_1).f0) _ _ ((rd_T53 l0 x8_1).f1) true _ ?side1_1 ?side2_1 A6.out).mono ?_); (case side1_1 => repeat (first | exact (Kd.C_below HR102_1.out HB.out) | exact (Kd.C_below (Aside0.out (by assumption)) HB.out) | (with_reducible refine Kd.C_alloc ?_ _) | (with_reducible refine Kd.C_drewN ?_ _) | (with_reducible refine Kd.C_drew ?_))); (case side2_1 => exact HC102_1.out); rintro e w8 ⟨rfl, hb⟩; have n0_ := Aside0.mk (below_step (by repeat (first | (with_reducible first | exact HB.out | apply below_alloc | apply pw_below_drewN | apply below_drew1) | exact HB.out)) hb); clear HB; have HB := n0_; clear n0_; (try clear hb); (try clear hb2); (try clear hk); (try clear hi)))
       go_ret
       exact ⟨by first | rfl | (simp [errW_none, errW_some] <;> rfl) | (simp [*, errW_none, errW_some] <;> rfl), by repeat (first | (with_reducible first | exact HB.out | apply below_alloc | apply pw_below_drewN | apply below_drew1) | exact HB.out)⟩
      ·replace c7 := Bool.eq_false_iff.mpr c7
       subst c7
       have H1 : (slices_IndexFunc.l0 k1 l0 (l0.length : Int) (wrap64 (x8_1 + 1))) = some r := by rw [if_neg (show ¬ (false = true) by decide)] at H; exact H
       clear H
       have H := H1
       clear H1
       have H' := Aside0.mk H
       clear H
       have p102 : 0 ≤ (x8_1 : Int) := of_decide_eq_true (by first | (with_reducible assumption) | assumption)
       have q102 : x8_1 < (l0.length : Int) := of_decide_eq_true (by first | (with_reducible assumption) | assumption)
       obtain ⟨ad102, A102_1, c102_1, e102, hx102_0, hx102_1, hl102_1, hi102_1⟩ := at_T53 HR0.out x8_1 p102 q102
       cases e102
       replace hx102_0 := (HB.out.cell (World.block_lt_of_cell? w _ hx102_0)).trans hx102_0
       replace hx102_1 := (HB.out.cell (World.block_lt_of_cell? w _ hx102_1)).trans hx102_1
       have HR102_1 := Aside0.mk hi102_1
       have HC102_1 := Aside0.mk hl102_1
       clear hi102_1 hl102_1
       replace p102 := eq_true p102
       replace q102 := eq_true q102
       go_wp2_with (first | (go_at_call 28; (with_reducible refine (option_Encode_1.calls ((rd_T53 l0 x8_1).f0) _ _ ((rd_T53 l0 x8_1).f1) false _ ?side1_2 ?side2_2 A6.out).mono ?_); (case side1_2 => repeat (first | exact (Kd.C_below HR102_1.out HB.out) | exact (Kd.C_below (Aside0.out (by assumption)) HB.out) | (with_reducible refine Kd.C_alloc ?_ _) | (with_reducible refine Kd.C_drewN ?_ _) | (with_reducible refine Kd.C_drew ?_))); (case side2_2 => exact HC102_1.out); rintro e w9 ⟨rfl, hb⟩; have n0_ := Aside0.mk (below_step (by repeat (first | (with_reducible first | exact HB.out | apply below_alloc | apply pw_below_drewN | apply below_drew1) | exact HB.out)) hb); clear HB; have HB := n0_; clear n0_; (try clear hb); (try clear hb2); (try clear hk); (try clear hi)))
       go_roundg k1
       case measure => have := HK1.out; omega
       case rel => exact ⟨(wrap64 (x8_1 + 1)), (by first | rfl | (simp; done) | (simp [*]; done)), H', ⟨by have := HK1.out; omega⟩, ⟨by repeat (first | (with_reducible first | exact HB.out | apply below_alloc | apply pw_below_drewN | apply below_drew1) | exact HB.out)⟩⟩
     ·rw [if_neg c5] at H
      exact absurd H (by simp)
    ·rw [if_neg c4] at H
     exact absurd H (by simp)
   ·rw [if_neg c3] at H
    have c3b0 : decide (x8_1 < (l0.length : Int)) = false := decide_eq_false c3
    clear c3
    obtain rfl := Option.some.inj H
    go_wp2
    go_ret
    exact ⟨by first | rfl | (simp [errW_none, errW_some] <;> rfl) | (simp [*, errW_none, errW_some] <;> rfl), by repeat (first | (with_reducible first | exact HB.out | apply below_alloc | apply pw_below_drewN | apply below_drew1) | exact HB.out)⟩

end Go.Proofs.YtdpoknfidlekbaaDoor.Pr
end

section
-- written by a program of this session (wip/tools/gen.py) over the kit's print
namespace Go.Proofs.YtdpoknfidlekbaaDoor.Pr
open Go.RowKit Go.Proofs.YtdpoknfidlekbaaDoorW.PrintWords Go.Proofs.YtdpoknfidlekbaaDoorW.PrintLast Go.Proofs.YtdpoknfidlekbaaDoorW.PrintMore
attribute [local go_sem] max2_int min2_int max_two min_two max_three min_three max_four min_four   -- for this text's walks alone
set_option linter.unusedVariables false
set_option linter.unusedSimpArgs false

/-! ### slices_ContainsFunc: function 29 -/
def slices_ContainsFunc.f (k : Nat) (l0 : List (S53)) (a1 : Int) : Option (Bool) := (slices_IndexFunc.f k l0 a1).bind fun t104 => (some (decide (t104 ≥ 0)))
theorem slices_ContainsFunc.mono : ∀ a0 a1 k, LeO (slices_ContainsFunc.f k a0 a1) (slices_ContainsFunc.f (k + 1) a0 a1) := by
 intro a0 a1 k
 unfold slices_ContainsFunc.f
 repeat' first
   | (with_reducible exact slices_IndexFunc.mono _ _ _)
   | (with_reducible exact LeO.refl _)
   | (with_reducible exact LeO.none _)
   | (with_reducible refine LeO.ite ?_ ?_)
   | (with_reducible refine LeO.bind ?_ (fun _ => ?_))
   | exact slices_IndexFunc.mono _ _ _
   | exact LeO.none _
   | refine LeO.ite ?_ ?_
   | refine LeO.bind ?_ (fun _ => ?_)
set_option maxHeartbeats 8000000 in
set_option maxRecDepth 100000 in
theorem slices_ContainsFunc.calls (k : Nat) (A0 : Option Addr) (c0 : Nat) (l0 : List (S53)) (a1 : Int) (r : Bool) (w : World) (hr0 : Kd.C k53 w A0 l0.length l0) (hc0 : l0.length ≤ c0) (h : slices_ContainsFunc.f k l0 a1 = some r) :
  Calls Tryd.prog 29 #[.slice A0 l0.length c0, .func (.func 28) #[] #[]] w fun e w' => e = .returned (.bool r) ∧ Below w.heap.size w w' := by
 have HR0 := Aside0.mk hr0
 have HC0 := Aside0.mk hc0
 clear hr0 hc0
 have HB := Aside0.mk (Below.refl w.heap.size w)
 have H : ((slices_IndexFunc.f k l0 a1).bind fun t104 => (some (decide (t104 ≥ 0)))) = some r := h
 clear h
 replace H := Option.bind_eq_some_iff.mp H
 obtain ⟨t104, A30, H⟩ := H
 replace H : (some (decide (t104 ≥ 0))) = some r := H
 have A3 := Aside0.mk A30
 clear A30
 obtain rfl := Option.some.inj H
 go_enter Tryd.func29, Tryd.ntmps29
 go_wp2_with (first | ((with_reducible refine gate_callee (f := 18) rfl ?_); refine goesL_ (some 7) rfl rfl Tryd.func18 (by kernel_rfl) rfl #[.slice A0 l0.length c0, .func (.func 28) #[] #[]] rfl (by (try simp only [List.map_toArray, List.map_cons, List.map_nil]); first | done | rfl | (simp only [List.length_drop, List.length_take]; rfl)) ?_; (with_reducible refine (slices_IndexFunc.calls k _ _ l0 a1 t104 _ ?side1_1 ?side2_1 A3.out).mono ?_); (case side1_1 => repeat (first | exact HR0.out | (with_reducible refine Kd.C_alloc ?_ _) | (with_reducible refine Kd.C_drewN ?_ _) | (with_reducible refine Kd.C_drew ?_))); (case side2_1 => exact HC0.out); rintro e w4 ⟨rfl, hb⟩; refine ⟨_, rfl, ?_⟩; have n0_ := Aside0.mk (below_step (by repeat (first | (with_reducible first | exact HB.out | apply below_alloc | apply pw_below_drewN | apply below_drew1) | exact HB.out)) hb); clear HB; have HB := n0_; clear n0_; (try clear hb); (try clear hb2); (try clear hk); (try clear hi)))
 go_ret
 exact ⟨by first | rfl | (simp [errW_none, errW_some] <;> rfl) | (simp [*, errW_none, errW_some] <;> rfl), by repeat (first | (with_reducible first | exact HB.out | apply below_alloc | apply pw_below_drewN | apply below_drew1) | exact HB.out)⟩

end Go.Proofs.YtdpoknfidlekbaaDoor.Pr
end
