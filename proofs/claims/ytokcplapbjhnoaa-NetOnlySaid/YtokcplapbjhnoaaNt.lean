/-
  Nets, as these proofs see them: what a net's cells say, what each call makes of it, and that all else stays as it was. No program in sight.
-/
import Derived.Test.YtokcplapbjhnoaaDk
namespace Go.Proofs.Ytokcplapbjhnoaa
open Go.RowKit Go.Proofs.YtokcplapbjhnoaaW.PrintWords Go.Proofs.YtokcplapbjhnoaaW.PrintLast Go.Proofs.YtokcplapbjhnoaaW.PrintMore
set_option linter.unusedVariables false

structure NtS where
  room : Int
  cut : Bool
  l0 : List (List Int)
  l1 : List (List Int)

def NtS.one (i : Int) : Prop := i = 0 ∨ i = 1
instance (i : Int) : Decidable (NtS.one i) := by unfold NtS.one; infer_instance
def NtS.way (n : NtS) (i : Int) : List (List Int) := if i = 0 then n.l0 else n.l1
def NtS.setWay (n : NtS) (i : Int) (l : List (List Int)) : NtS := if i = 0 then { n with l0 := l } else { n with l1 := l }
def NtS.put (n : NtS) (i : Int) (b : List Int) : Int × NtS :=
  if ¬ NtS.one i then (1, n) else if n.cut = true then (7, n) else if n.room ≤ (n.way i).length then (3, n) else (0, n.setWay i (n.way i ++ [b]))
def NtS.place (n : NtS) (i at_ : Int) : Int := if ¬ NtS.one i then 1 else if at_ < 0 ∨ (n.way i).length ≤ at_ then 4 else 0
def NtS.taken (n : NtS) (i at_ : Int) : List Int := if n.place i at_ = 0 then (n.way i).getD at_.toNat [] else []
def NtS.take (n : NtS) (i at_ : Int) : NtS := if n.place i at_ = 0 then n.setWay i ((n.way i).eraseIdx at_.toNat) else n
def NtS.copy (n : NtS) (i at_ : Int) : Int × NtS :=
  if n.place i at_ = 0 then (if n.room ≤ (n.way i).length then (3, n) else (0, n.setWay i (n.way i ++ [(n.way i).getD at_.toNat []]))) else (n.place i at_, n)
def NtS.setCut (n : NtS) (is : Bool) : NtS := { n with cut := is }
def NtS.len (n : NtS) (i : Int) : Int := if NtS.one i then (n.way i).length else 0
def NtS.new (room : Int) : NtS := ⟨room, false, [], []⟩
/-- Nets that may be. -/
def NtS.ok (n : NtS) : Prop := 1 ≤ n.room ∧ n.room ≤ 1000 ∧ (n.l0.length : Int) ≤ n.room ∧ (n.l1.length : Int) ≤ n.room ∧ (∀ b ∈ n.l0, b.length ≤ 1000) ∧ ∀ b ∈ n.l1, b.length ≤ 1000

theorem NtS.ok_way {n : NtS} (h : n.ok) (i : Int) : ((n.way i).length : Int) ≤ n.room ∧ ∀ b ∈ n.way i, b.length ≤ 1000 := by
  unfold NtS.way
  split
  · exact ⟨h.2.2.1, h.2.2.2.2.1⟩
  · exact ⟨h.2.2.2.1, h.2.2.2.2.2⟩
theorem NtS.ok_set {n : NtS} (h : n.ok) (i : Int) {l : List (List Int)} (hl : (l.length : Int) ≤ n.room) (hb : ∀ b ∈ l, b.length ≤ 1000) : (n.setWay i l).ok := by
  obtain ⟨h1, h2, h3, h4, h5, h6⟩ := h
  unfold NtS.setWay
  split
  · exact ⟨h1, h2, hl, h4, hb, h6⟩
  · exact ⟨h1, h2, h3, hl, h5, hb⟩
theorem NtS.ok_put {n : NtS} (h : n.ok) (i : Int) {b : List Int} (hb : b.length ≤ 1000) : (n.put i b).2.ok := by
  unfold NtS.put
  split
  · exact h
  · split
    · exact h
    · split
      · exact h
      · rename_i hr
        refine NtS.ok_set h i ?_ ?_
        · simp only [List.length_append, List.length_singleton]; omega
        · intro x hx
          rcases List.mem_append.1 hx with hx | hx
          · exact (NtS.ok_way h i).2 x hx
          · rw [List.mem_singleton.1 hx]; exact hb
theorem NtS.ok_take {n : NtS} (h : n.ok) (i at_ : Int) : (n.take i at_).ok := by
  unfold NtS.take
  split
  · refine NtS.ok_set h i ?_ ?_
    · have := (NtS.ok_way h i).1
      have := List.length_eraseIdx_le (n.way i) at_.toNat
      omega
    · intro x hx
      exact (NtS.ok_way h i).2 x (List.mem_of_mem_eraseIdx hx)
  · exact h
theorem NtS.getD_len {l : List (List Int)} (h : ∀ b ∈ l, b.length ≤ 1000) (i : Nat) : (l.getD i []).length ≤ 1000 := by
  rw [List.getD_eq_getElem?_getD]
  cases e : l[i]? with
  | none => simp
  | some b => exact h b (List.mem_of_getElem? e)
theorem NtS.ok_copy {n : NtS} (h : n.ok) (i at_ : Int) : (n.copy i at_).2.ok := by
  unfold NtS.copy
  split
  · split
    · exact h
    · rename_i hr
      refine NtS.ok_set h i ?_ ?_
      · simp only [List.length_append, List.length_singleton]; omega
      · intro x hx
        rcases List.mem_append.1 hx with hx | hx
        · exact (NtS.ok_way h i).2 x hx
        · rw [List.mem_singleton.1 hx]; exact NtS.getD_len (NtS.ok_way h i).2 _
  · exact h
theorem NtS.ok_cut {n : NtS} (h : n.ok) (is : Bool) : (n.setCut is).ok := h
theorem NtS.ok_new {room : Int} (h1 : 1 ≤ room) (h2 : room ≤ 1000) : (NtS.new room).ok := ⟨h1, h2, by simp [NtS.new]; omega, by simp [NtS.new]; omega, by simp [NtS.new], by simp [NtS.new]⟩

/-! ### in memory -/
/-- A row (elements of type V) of rows of bytes (of type U). -/
abbrev BR (U V : TypeId) (w : World) (v : Value) (xs : List (List Int)) : Prop := (Kd.slice U (Kd.int .u8)).R V w 0 (fun _ => True) v xs
/-- It stays, where neither its own block nor a block of bytes turns. -/
theorem BR.fr {U V : TypeId} {w W : World} {v : Value} {xs : List (List Int)} {S : Nat → Prop} (h : BR U V w v xs) (hf : Fr w W S) (hv : ∀ k, v.ownBlock = some k → ¬ S k) (hS : ∀ k, S k → k < w.heap.size → ∀ cs, w.heap[k]? ≠ some (.cells cs U (0, 0))) : BR U V W v xs := by
  obtain ⟨h0, inner, ho, hr⟩ := h
  refine ⟨fun _ _ => trivial, inner, own_move ho (fun k hk => hf.block k (own_lt ho k hk) (hv k hk)), hr.imp_ (fun _ _ hp => ?_)⟩
  refine Kd.M_mono _ (fun k hk => hk.1) (Kd.M_move _ (fun k hk => hf.block k hk.2.2.1 (fun hs => ?_)) (Kd.M_bound _ hp))
  obtain ⟨_, _, hlt, q, hq, cs, hc⟩ := hk
  rcases List.mem_cons.1 hq with rfl | hq
  · exact hS k hs hlt cs hc
  · cases hq

/-- A net in memory: four cells of type T in block g; O are its blocks. -/
def NtAt (T U V : TypeId) (w : World) (g : Nat) (O : Nat → Prop) (n : NtS) : Prop :=
  ∃ v0 v1, w.heap[g]? = some (.cells #[.int .i64 n.room, .bool n.cut, v0, v1] T (0, 0)) ∧ BR U V w v0 n.l0 ∧ BR U V w v1 n.l1 ∧ (∀ k, v0.ownBlock = some k → v1.ownBlock ≠ some k) ∧ ∀ k, O k ↔ (k = g ∨ v0.ownBlock = some k ∨ v1.ownBlock = some k)
/-- What a call on it may have turned. -/
def Ext (w w' : World) (O O' : Nat → Prop) : Prop := Fr w w' O ∧ ∀ k, O' k → O k ∨ w.heap.size ≤ k

theorem NtAt.typed {T U V : TypeId} {w : World} {g : Nat} {O : Nat → Prop} {n : NtS} (h : NtAt T U V w g O n) {k : Nat} (hk : O k) : k < w.heap.size ∧ ∃ cs q, w.heap[k]? = some (.cells cs q (0, 0)) ∧ (q = T ∨ q = V) := by
  obtain ⟨v0, v1, hb, h0, h1, hd, hO⟩ := h
  rcases (hO k).1 hk with rfl | hk | hk
  · exact ⟨blk_lt hb, _, _, hb, .inl rfl⟩
  · obtain ⟨cs, hc⟩ := Kd.R_typed h0 k hk
    exact ⟨blk_lt hc, _, _, hc, .inr rfl⟩
  · obtain ⟨cs, hc⟩ := Kd.R_typed h1 k hk
    exact ⟨blk_lt hc, _, _, hc, .inr rfl⟩
theorem NtAt.lt {T U V : TypeId} {w : World} {g : Nat} {O : Nat → Prop} {n : NtS} (h : NtAt T U V w g O n) : ∀ k, O k → k < w.heap.size := fun k hk => (h.typed hk).1
theorem NtAt.clean {T U V : TypeId} {w : World} {g : Nat} {O : Nat → Prop} {n : NtS} (h : NtAt T U V w g O n) (hT : T ≠ U) (hV : V ≠ U) : ∀ k, O k → ∀ cs, w.heap[k]? ≠ some (.cells cs U (0, 0)) := by
  intro k hk cs hc
  obtain ⟨_, cs', q, hc', hq⟩ := h.typed hk
  rw [hc'] at hc
  injection hc with hc
  injection hc with _ hc
  rcases hq with rfl | rfl
  · exact hT hc
  · exact hV hc
/-- A net stays, where neither its own blocks nor a block of bytes turns. -/
theorem NtAt.fr {T U V : TypeId} {w W : World} {g : Nat} {O S : Nat → Prop} {n : NtS} (h : NtAt T U V w g O n) (hf : Fr w W S) (hO : ∀ k, O k → ¬ S k) (hS : ∀ k, S k → k < w.heap.size → ∀ cs, w.heap[k]? ≠ some (.cells cs U (0, 0))) : NtAt T U V W g O n := by
  obtain ⟨v0, v1, hb, h0, h1, hd, hO'⟩ := h
  exact ⟨v0, v1, hf.blk hb (hO g ((hO' g).2 (.inl rfl))), h0.fr hf (fun k hk => hO k ((hO' k).2 (.inr (.inl hk)))) hS, h1.fr hf (fun k hk => hO k ((hO' k).2 (.inr (.inr hk)))) hS, hd, hO'⟩
theorem NtAt.other {T T' U V : TypeId} {w W : World} {g g' : Nat} {O O' : Nat → Prop} {n n' : NtS} (h : NtAt T U V w g O n) (h' : NtAt T' U V w g' O' n') (hT : T' ≠ U) (hV : V ≠ U) (hd : ∀ k, O k → ¬ O' k) (hf : Fr w W O') : NtAt T U V W g O n :=
  h.fr hf hd (fun k hk _ => h'.clean hT hV k hk)
theorem NtAt.below {T U V : TypeId} {w W : World} {g : Nat} {O : Nat → Prop} {n : NtS} (h : NtAt T U V w g O n) (hb : Below w.heap.size w W) : NtAt T U V W g O n :=
  h.fr (Fr.of_below hb (fun _ => False)) (fun _ _ hk => hk) (fun _ hk => hk.elim)
theorem Ext.apart {w W : World} {O O' X : Nat → Prop} (h : Ext w W O O') (hX : ∀ k, X k → k < w.heap.size) (hd : ∀ k, X k → ¬ O k) : ∀ k, X k → ¬ O' k := by
  intro k hk ho
  rcases h.2 k ho with h2 | h2
  · exact hd k hk h2
  · have := hX k hk; omega
theorem Ext.refl (w : World) (O : Nat → Prop) : Ext w w O O := ⟨Fr.refl w O, fun _ hk => .inl hk⟩
theorem Ext.of_below {w W : World} (hb : Below w.heap.size w W) (O : Nat → Prop) : Ext w W O O := ⟨Fr.of_below hb O, fun _ hk => .inl hk⟩
theorem Ext.then_ {w W X : World} {O O1 O2 : Nat → Prop} (h : Ext w W O O1) (k : Ext W X O1 O2) : Ext w X O O2 :=
  ⟨h.1.then_ k.1 h.2, fun i hi => by
    rcases k.2 i hi with h2 | h2
    · exact h.2 i h2
    · exact .inr (Nat.le_trans h.1.size h2)⟩
/-- The way's slice. -/
theorem NtAt.ways {T U V : TypeId} {w : World} {g : Nat} {O : Nat → Prop} {n : NtS} (h : NtAt T U V w g O n) {i : Int} (ht : NtS.one i) :
    ∃ v, w.cell? ⟨g, 2 + i.toNat, none⟩ = some v ∧ BR U V w v (n.way i) ∧ (∀ k, v.ownBlock = some k → O k) ∧ (∀ k, v.ownBlock = some k → k ≠ g ∨ T = V) := by
  obtain ⟨v0, v1, hb, h0, h1, hd, hO⟩ := h
  rcases ht with rfl | rfl
  · refine ⟨v0, (blk_cell hb 2).trans rfl, h0, fun k hk => (hO k).2 (.inr (.inl hk)), fun k hk => ?_⟩
    obtain ⟨cs, hc⟩ := Kd.R_typed h0 k hk
    by_cases e : k = g
    · subst e
      rw [hb] at hc
      injection hc with hc
      injection hc with _ hc
      exact .inr hc
    · exact .inl e
  · refine ⟨v1, (blk_cell hb 3).trans rfl, h1, fun k hk => (hO k).2 (.inr (.inr hk)), fun k hk => ?_⟩
    obtain ⟨cs, hc⟩ := Kd.R_typed h1 k hk
    by_cases e : k = g
    · subst e
      rw [hb] at hc
      injection hc with hc
      injection hc with _ hc
      exact .inr hc
    · exact .inl e
/-- A way's new slice is stored: the way's own block alone has turned before. -/
theorem NtAt.stored {T U V : TypeId} {w W : World} {g : Nat} {O : Nat → Prop} {n : NtS} (h : NtAt T U V w g O n) (hTU : T ≠ U) (hTV : T ≠ V) (hVU : V ≠ U) {i : Int} (ht : NtS.one i) {v v' : Value} (hv : w.cell? ⟨g, 2 + i.toNat, none⟩ = some v) {l : List (List Int)}
    (hf : Fr w W (fun k => v.ownBlock = some k)) (h' : BR U V W v' l) (ho : ∀ k, v'.ownBlock = some k → v.ownBlock = some k ∨ w.heap.size ≤ k) :
    ∃ O', NtAt T U V (W.setCell ⟨g, 2 + i.toNat, none⟩ v') g O' (n.setWay i l) ∧ Ext w (W.setCell ⟨g, 2 + i.toNat, none⟩ v') O O' := by
  obtain ⟨v0, v1, hb, h0, h1, hd, hO⟩ := h
  have hg : g < w.heap.size := blk_lt hb
  have typ : ∀ {u : Value} {xs : List (List Int)} {X : World}, BR U V X u xs → ∀ k, u.ownBlock = some k → k < X.heap.size ∧ ∃ cs, X.heap[k]? = some (.cells cs V (0, 0)) := fun hu k hk => by
    obtain ⟨cs, hc⟩ := Kd.R_typed hu k hk
    exact ⟨blk_lt hc, cs, hc⟩
  have ne : ∀ {u : Value} {xs : List (List Int)}, BR U V w u xs → u.ownBlock ≠ some g := fun hu hk => by
    obtain ⟨_, cs, hc⟩ := typ hu g hk
    rw [hb] at hc
    injection hc with hc
    injection hc with _ hc
    exact hTV hc
  have hS : ∀ {u : Value} {xs : List (List Int)}, BR U V w u xs → ∀ k, u.ownBlock = some k → k < w.heap.size → ∀ cs, w.heap[k]? ≠ some (.cells cs U (0, 0)) := fun hu k hk _ cs hc => by
    obtain ⟨_, cs', hc'⟩ := typ hu k hk
    rw [hc'] at hc
    injection hc with hc
    injection hc with _ hc
    exact hVU hc
  have set : ∀ {X : World} {cells : Array Value}, X.heap[g]? = some (.cells cells T (0, 0)) → ∀ {u y : Value} {j : Nat} {xs : List (List Int)}, BR U V X u xs → BR U V (X.setCell ⟨g, j, none⟩ y) u xs := fun hX _ _ _ _ hu =>
    Kd.R_set hu hX (fun q hq => by
      rcases List.mem_cons.1 hq with rfl | hq
      · exact fun e => hTV e.symm
      · rcases List.mem_cons.1 hq with rfl | hq
        · exact fun e => hTU e.symm
        · cases hq) _ _
  have far : ∀ k, v'.ownBlock = some k → ∀ u : Value, (∀ k, u.ownBlock = some k → k < w.heap.size) → (∀ k, v.ownBlock = some k → u.ownBlock ≠ some k) → u.ownBlock ≠ some k := fun k hk u hu hvu e => by
    rcases ho k hk with h2 | h2
    · exact hvu k h2 e
    · have := hu k e; omega
  rcases ht with rfl | rfl
  · obtain rfl : v0 = v := Option.some.inj (((blk_cell hb 2).trans rfl).symm.trans hv)
    have hbW := hf.blk hb (ne h0)
    have h1W := h1.fr hf (fun k hk hk' => hd k hk' hk) (hS h0)
    refine ⟨fun k => k = g ∨ v'.ownBlock = some k ∨ v1.ownBlock = some k, ⟨v', v1, (blk_set hbW 2 _).trans rfl, set hbW h', set hbW h1W, fun k hk => ?_, fun k => Iff.rfl⟩, ?_, fun k hk => ?_⟩
    · exact far k hk v1 (fun k hk => (typ h1 k hk).1) (fun k hk => hd k hk)
    · exact (hf.mono (S' := O) (fun k hk => (hO k).2 (.inr (.inl hk)))).setCell (.inl ((hO g).2 (.inl rfl))) _
    · rcases hk with rfl | hk | hk
      · exact .inl ((hO _).2 (.inl rfl))
      · rcases ho k hk with h2 | h2
        · exact .inl ((hO _).2 (.inr (.inl h2)))
        · exact .inr h2
      · exact .inl ((hO _).2 (.inr (.inr hk)))
  · obtain rfl : v1 = v := Option.some.inj (((blk_cell hb 3).trans rfl).symm.trans hv)
    have hbW := hf.blk hb (ne h1)
    have h0W := h0.fr hf (fun k hk hk' => hd k hk hk') (hS h1)
    refine ⟨fun k => k = g ∨ v0.ownBlock = some k ∨ v'.ownBlock = some k, ⟨v0, v', (blk_set hbW 3 _).trans rfl, set hbW h0W, set hbW h', fun k hk e => ?_, fun k => Iff.rfl⟩, ?_, fun k hk => ?_⟩
    · exact far k e v0 (fun k hk => (typ h0 k hk).1) (fun k hk e2 => hd k e2 hk) hk
    · exact (hf.mono (S' := O) (fun k hk => (hO k).2 (.inr (.inr hk)))).setCell (.inl ((hO g).2 (.inl rfl))) _
    · rcases hk with rfl | hk | hk
      · exact .inl ((hO _).2 (.inl rfl))
      · exact .inl ((hO _).2 (.inr (.inl hk)))
      · rcases ho k hk with h2 | h2
        · exact .inl ((hO _).2 (.inr (.inr h2)))
        · exact .inr h2
theorem NtAt.cutted {T U V : TypeId} {w : World} {g : Nat} {O : Nat → Prop} {n : NtS} (h : NtAt T U V w g O n) (hTU : T ≠ U) (hTV : T ≠ V) (is : Bool) : NtAt T U V (w.setCell ⟨g, 1, none⟩ (.bool is)) g O (n.setCut is) ∧ Ext w (w.setCell ⟨g, 1, none⟩ (.bool is)) O O := by
  obtain ⟨v0, v1, hb, h0, h1, hd, hO⟩ := h
  have set : ∀ {u y : Value} {j : Nat} {xs : List (List Int)}, BR U V w u xs → BR U V (w.setCell ⟨g, j, none⟩ y) u xs := fun hu =>
    Kd.R_set hu hb (fun q hq => by
      rcases List.mem_cons.1 hq with rfl | hq
      · exact fun e => hTV e.symm
      · rcases List.mem_cons.1 hq with rfl | hq
        · exact fun e => hTU e.symm
        · cases hq) _ _
  exact ⟨⟨v0, v1, (blk_set hb 1 _).trans rfl, set h0, set h1, hd, hO⟩, (Fr.refl w O).setCell (.inl ((hO g).2 (.inl rfl))) _, fun k hk => .inl hk⟩
theorem NtAt.cells {T U V : TypeId} {w : World} {g : Nat} {O : Nat → Prop} {n : NtS} (h : NtAt T U V w g O n) : w.cell? ⟨g, 0, none⟩ = some (.int .i64 n.room) ∧ w.cell? ⟨g, 1, none⟩ = some (.bool n.cut) := by
  obtain ⟨v0, v1, hb, h0, h1, hd, hO⟩ := h
  exact ⟨(blk_cell hb 0).trans rfl, (blk_cell hb 1).trans rfl⟩
theorem NtAt.new (T U V : TypeId) (room : Int) (w : World) : NtAt T U V (w.alloc (.cells #[.int .i64 room, .bool false, .slice none 0 0, .slice none 0 0] T)) w.heap.size (fun k => k = w.heap.size) (NtS.new room) :=
  ⟨_, _, blk_new w _, Kd.R_nil _ _ _ _ _, Kd.R_nil _ _ _ _ _, fun k hk => by simp [Value.ownBlock] at hk, fun k => by simp [Value.ownBlock]⟩

end Go.Proofs.Ytokcplapbjhnoaa
