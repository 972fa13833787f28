/-
  What the law NetOnly keeps beside its net: three pairs of numbers and a map, in memory; conversions between bytes and strings as one operation. No condition.
-/
import Derived.Test.YtokcplapbjhnoaaHNt9
import Derived.Maps.Own
import Derived.Maps.OwnOps
import Derived.Maps.Views
import Derived.StringKeys
import Derived.Carry
import Derived.Lib.ConvBytes
namespace Go.Proofs.Ytokcplapbjhnoaa
open Go.RowKit Go.Maps Go.Proofs.Ytokcplapbjhnoaa.Pr Go.Proofs.YtokcplapbjhnoaaW.PrintWords Go.Proofs.YtokcplapbjhnoaaW.PrintLast Go.Proofs.YtokcplapbjhnoaaW.PrintMore
set_option linter.unusedVariables false
set_option linter.unusedSimpArgs false

theorem add_none (a : Addr) : a.add 0 = a := by unfold Addr.add; split <;> simp_all
theorem lawS : Keyed Try.prog 9 := string_keyed Try.underlying9
theorem zeroI (w : World) : (zeroValue 3).run Try.prog w = .ok (.int .i64 0) w := by kernel_rfl
def kst (t v : Int) : ByteArray := strOfNums [t] ++ strOfNums [v]
theorem kst_data (t v : Int) : (kst t v).data.toList = [UInt8.ofNat t.toNat, UInt8.ofNat v.toNat] := by
  unfold kst
  rw [ByteArray.data_append, Array.toList_append]
  rfl
theorem kst_size (t v : Int) : (kst t v).size = 2 := by
  show (kst t v).data.size = 2
  rw [← Array.length_toList, kst_data]
  rfl
theorem kst_str (t v : Int) : (strOfNums [t, v]).data.toList = (kst t v).data.toList := by rw [kst_data]; rfl
theorem str_kst (t v : Int) : strOfNums [t, v] = kst t v := by
  have h := kst_str t v
  cases hx : strOfNums [t, v]; cases hy : kst t v
  rw [hx, hy] at h
  simp at h
  rw [h]
theorem kst_key (t v : Int) : keyOf Try.prog 9 (.string (kst t v)) = some (.string (kst t v).data.toList) := Go.WideMaps.keyOf_string_mk Try.underlying9 (by rw [kst_size]; decide)
/-- Bytes to a string. -/
theorem conv_at {ops : Array Oper} {rest : List Oper} {o : Oper} {a : Act} {Q : Exit → Act → World → Prop} {w : World} (hg : o.guard = none) (x : Operand) (hop : o.op = .convert 28 9 x) (A : Option Addr) (n c : Nat) (xs : List Int) (hx : a.eval x = .slice A n c) (hC : (Kd.int .u8).C w A n xs)
    (h : wpList Try.prog ops Q rest (a.put o.dst (.string (strOfNums xs))) w) : wpList Try.prog ops Q (o :: rest) a w := by
  have hr : (convert 28 9 (.slice A n c)).run Try.prog w = .ok (.string (strOfNums xs)) w := Kd.C_string (P := Try.prog) (A := A) (c := c) Try.underlying28 Try.underlying5 Try.underlying9 hC
  refine wpList_plain hg fun K hK => ?_
  unfold Oper.wp
  simp [execOp, hop, hx, hr, Result.andThen]
  exact hK _ _ h
/-- A string to bytes. -/
theorem conv_sb {ops : Array Oper} {rest : List Oper} {o : Oper} {a : Act} {Q : Exit → Act → World → Prop} {w : World} (hg : o.guard = none) (x : Operand) (hop : o.op = .convert 9 28 x) (t v : Int) (ht : 0 ≤ t ∧ t ≤ 255) (hv : 0 ≤ v ∧ v ≤ 255) (hx : a.eval x = .string (kst t v))
    (h : ∀ (W : World) (A : Option Addr) (c : Nat), Below w.heap.size w W → (Kd.int .u8).C W A 2 [t, v] → 2 ≤ c → wpList Try.prog ops Q rest (a.put o.dst (.slice A 2 c)) W) : wpList Try.prog ops Q (o :: rest) a w := by
  have hr := Lib.run_convert_string_bytes (P := Try.prog) w 9 28 5 (kst t v) Try.underlying9 Try.underlying28 Try.underlying5
  rw [kst_size] at hr
  refine wpList_plain hg fun K hK => ?_
  unfold Oper.wp
  simp [execOp, hop, hx, hr, Result.andThen]
  refine hK _ _ (h _ _ _ ?_ ?_ ?_)
  · exact ⟨rfl, rfl, rfl, by rw [Lib.bytesWorld_size]; omega, fun k hk => Lib.bytesWorld_at_old w 5 (kst t v) k hk⟩
  · refine Kd.C_of_reads (d := (0 : Int)) (h1 := fun _ => rfl) ⟨rfl, by decide, fun _ => ⟨_, rfl, fun j hj => ?_⟩⟩
    have hc := Lib.bytesWorld_cell w 5 (kst t v) j (by rw [kst_size]; exact hj)
    rw [kst_data] at hc
    have e : (⟨w.heap.size, 0, none⟩ : Addr).add j = ⟨w.heap.size, j, none⟩ := by unfold Addr.add; split <;> simp_all
    rw [e, hc]
    obtain rfl | rfl : j = 0 ∨ j = 1 := by omega
    · have : (UInt8.ofNat t.toNat).toNat = t.toNat := by simp [UInt8.toNat_ofNat']; omega
      simp [this]; omega
    · have : (UInt8.ofNat v.toNat).toNat = v.toNat := by simp [UInt8.toNat_ofNat']; omega
      simp [this]; omega
  · have := grownCap_ge w 2 0 5; exact this
/-- The j-th of a pair in memory. -/
theorem idx2 (b j : Nat) (hj : j < 2) (W : World) : (Instr.indexAt 44 (.pointer (some ⟨b, 0, none⟩)) (.int .i64 (j : Int))).run Try.prog W = .ok (.pointer (some ⟨b, j, none⟩)) W := by
  have hu : Try.prog.underlying 44 = some (.array 2 3) := by kernel_rfl
  have hs : (Try.prog.info? 3).map (fun i => i.size) = some 1 := by kernel_rfl
  obtain ⟨i0, h0, h1⟩ := Option.map_eq_some_iff.1 hs
  obtain rfl | rfl : j = 0 ∨ j = 1 := by omega
  all_goals simp [Instr.indexAt, Instr.sureAddr, asIntOf, run_underlying hu, sizeOf, typeInfo, h0, h1, Addr.add]
theorem and_one (x : Int) : bits .and .i64 x 1 = 0 ∨ bits .and .i64 x 1 = 1 := by
  have e : bits .and .i64 x 1 = IntKind.i64.wrap (((BitVec.ofInt 64 x).toNat &&& 1 : Nat) : Int) := by
    simp only [bits, BitVec.toNat_and]
    rfl
  rw [e, Nat.and_one_is_mod, IntKind.wrap_i64]
  omega

/-- What the law keeps beside its net. -/
def upd (f : Nat → Int) (j : Nat) (v : Int) : Nat → Int := fun q => if q = j then v else f q
structure OAt (w wr : World) (g : Nat) (O : Nat → Prop) (n : NtS) (bm k ga gt gp : Nat) (D : DataW Unit) (c t p : Nat → Int) : Prop where
  net : NN wr g O n
  ok : n.ok
  map : wr.ownsMap Try.prog 9 (plainElem Try.prog 3) bm k D
  ca : wr.heap[ga]? = some (.cells #[.int .i64 (c 0), .int .i64 (c 1)] 44 (0, 0))
  ta : wr.heap[gt]? = some (.cells #[.int .i64 (t 0), .int .i64 (t 1)] 44 (0, 0))
  pa : wr.heap[gp]? = some (.cells #[.int .i64 (p 0), .int .i64 (p 1)] 44 (0, 0))
  out : Below w.heap.size w wr
  own : ∀ k, O k → w.heap.size ≤ k
  sep : (ga ≠ gt ∧ ga ≠ gp ∧ gt ≠ gp) ∧ w.heap.size ≤ ga ∧ w.heap.size ≤ gt ∧ w.heap.size ≤ gp ∧ w.heap.size ≤ bm
variable {w wr W : World} {g : Nat} {O O' : Nat → Prop} {n n' : NtS} {bm k ga gt gp : Nat} {D D' : DataW Unit} {c t p : Nat → Int}
theorem map_blw (h : wr.ownsMap Try.prog 9 (plainElem Try.prog 3) bm k D) (hb : W.heap[bm]? = wr.heap[bm]?) : W.ownsMap Try.prog 9 (plainElem Try.prog 3) bm k D := by
  obtain ⟨es, clock, h1, h2⟩ := h
  exact ⟨es, clock, hb.trans h1, h2⟩
theorem map_cells (h : wr.ownsMap Try.prog 9 (plainElem Try.prog 3) bm k D) {q : Nat} {cs : Array Value} {t : TypeId} {fr : Nat × Nat} (hq : wr.heap[q]? = some (.cells cs t fr)) : bm ≠ q := by
  rintro rfl
  obtain ⟨es, clock, h1, h2⟩ := h
  rw [h1] at hq
  cases hq
theorem OAt.below (h : OAt w wr g O n bm k ga gt gp D c t p) (hb : Below wr.heap.size wr W) : OAt w W g O n bm k ga gt gp D c t p :=
  ⟨h.net.below hb, h.ok, map_blw h.map (hb.block bm h.map.lt), (hb.block ga (blk_lt h.ca)).trans h.ca, (hb.block gt (blk_lt h.ta)).trans h.ta, (hb.block gp (blk_lt h.pa)).trans h.pa, h.out.trans (hb.mono h.out.size), h.own, h.sep⟩
theorem NtAt.not44 (h : NN wr g O n) {q : Nat} {cs : Array Value} (hq : wr.heap[q]? = some (.cells cs 44 (0, 0))) : ¬ O q := by
  intro ho
  obtain ⟨_, cs', t, hc, ht⟩ := h.typed ho
  rw [hc] at hq
  injection hq with hq
  injection hq with _ hq
  rcases ht with rfl | rfl
  · exact absurd hq (by decide)
  · exact absurd hq (by decide)
theorem NtAt.notMap (h : NN wr g O n) (hm : wr.ownsMap Try.prog 9 (plainElem Try.prog 3) bm k D) : ¬ O bm := by
  intro ho
  obtain ⟨_, cs', t, hc, ht⟩ := h.typed ho
  exact map_cells hm hc rfl
theorem OAt.ext (h : OAt w wr g O n bm k ga gt gp D c t p) (hn : NN W g O' n') (hok : n'.ok) (E : Ext wr W O O') : OAt w W g O' n' bm k ga gt gp D c t p := by
  have ho := E.out h.out h.own
  exact ⟨hn, hok, map_blw h.map (E.1.block bm h.map.lt (NtAt.notMap h.net h.map)), E.1.blk h.ca (NtAt.not44 h.net h.ca), E.1.blk h.ta (NtAt.not44 h.net h.ta), E.1.blk h.pa (NtAt.not44 h.net h.pa), ho.1, ho.2, h.sep⟩
theorem net_one {q : Nat} {cs : Array Value} (h : NN wr g O n) (hq : wr.heap[q]? = some (.cells cs 44 (0, 0))) (p : Addr) (hp : p.block = q) (u : Value) : NN (wr.setCell p u) g O n := by
  subst hp
  have hf : Fr wr (wr.setCell p u) (fun k => k = p.block) := (Fr.refl wr (fun k => k = p.block)).setCell (p := p) (.inl rfl) u
  refine h.fr hf (fun k ho e => NtAt.not44 h hq (e ▸ ho)) (fun k hk hlt cs' hc => ?_)
  subst hk
  rw [hc] at hq
  injection hq with hq
  injection hq with _ hq
  exact absurd hq (by decide)
theorem OAt.mapped {kk : Nat} (h : OAt w wr g O n bm k ga gt gp D c t p) (hm : W.ownsMap Try.prog 9 (plainElem Try.prog 3) bm kk D') (hg : wr.grownBy W (some bm)) : OAt w W g O n bm kk ga gt gp D' c t p := by
  have hf := fr_grown hg
  have hne : ∀ {q : Nat} {cs : Array Value} {t : TypeId} {fr : Nat × Nat}, wr.heap[q]? = some (.cells cs t fr) → ¬ (some q = some bm) := fun hq e => map_cells h.map hq (Option.some.inj e).symm
  refine ⟨h.net.fr hf (fun k ho e => NtAt.notMap h.net h.map ((Option.some.inj e) ▸ ho)) (fun k hk hlt cs' hc => hne hc hk), h.ok, hm, hf.blk h.ca (hne h.ca), hf.blk h.ta (hne h.ta), hf.blk h.pa (hne h.pa), ?_, h.own, h.sep⟩
  exact h.out.grown hg h.out.size (fun j hj => by cases hj; exact h.sep.2.2.2.2)
theorem upd_put {q : Nat} {f : Nat → Int} (h : wr.heap[q]? = some (.cells #[.int .i64 (f 0), .int .i64 (f 1)] 44 (0, 0))) {j : Nat} (hj : j < 2) (v : Int) :
    (wr.setCell ⟨q, j, none⟩ (.int .i64 v)).heap[q]? = some (.cells #[.int .i64 (upd f j v 0), .int .i64 (upd f j v 1)] 44 (0, 0)) := by
  obtain rfl | rfl : j = 0 ∨ j = 1 := by omega
  · exact blk_put h 0 _ rfl
  · exact blk_put h 1 _ rfl
theorem at_two {q : Nat} {f : Nat → Int} (h : wr.heap[q]? = some (.cells #[.int .i64 (f 0), .int .i64 (f 1)] 44 (0, 0))) {j : Nat} (hj : j < 2) : wr.cell? ⟨q, j, none⟩ = some (.int .i64 (f j)) ∧ wr.frozen? ⟨q, j, none⟩ = false := by
  refine ⟨?_, blk_frozen h j⟩
  obtain rfl | rfl : j = 0 ∨ j = 1 := by omega
  · exact (blk_cell h 0).trans rfl
  · exact (blk_cell h 1).trans rfl
theorem OAt.setC (h : OAt w wr g O n bm k ga gt gp D c t p) {j : Nat} (hj : j < 2) (v : Int) : OAt w (wr.setCell ⟨ga, j, none⟩ (.int .i64 v)) g O n bm k ga gt gp D (upd c j v) t p :=
  ⟨net_one h.net h.ca _ rfl _, h.ok, map_blw h.map (Below.heap_setCell _ _ _ _ (map_cells h.map h.ca)), upd_put h.ca hj v, (Below.heap_setCell _ _ _ _ (Ne.symm h.sep.1.1)).trans h.ta, (Below.heap_setCell _ _ _ _ (Ne.symm h.sep.1.2.1)).trans h.pa, below_set h.out h.sep.2.1, h.own, h.sep⟩
theorem OAt.setT (h : OAt w wr g O n bm k ga gt gp D c t p) {j : Nat} (hj : j < 2) (v : Int) : OAt w (wr.setCell ⟨gt, j, none⟩ (.int .i64 v)) g O n bm k ga gt gp D c (upd t j v) p :=
  ⟨net_one h.net h.ta _ rfl _, h.ok, map_blw h.map (Below.heap_setCell _ _ _ _ (map_cells h.map h.ta)), (Below.heap_setCell _ _ _ _ h.sep.1.1).trans h.ca, upd_put h.ta hj v, (Below.heap_setCell _ _ _ _ (Ne.symm h.sep.1.2.2)).trans h.pa, below_set h.out h.sep.2.2.1, h.own, h.sep⟩
theorem OAt.setP (h : OAt w wr g O n bm k ga gt gp D c t p) {j : Nat} (hj : j < 2) (v : Int) : OAt w (wr.setCell ⟨gp, j, none⟩ (.int .i64 v)) g O n bm k ga gt gp D c t (upd p j v) :=
  ⟨net_one h.net h.pa _ rfl _, h.ok, map_blw h.map (Below.heap_setCell _ _ _ _ (map_cells h.map h.pa)), (Below.heap_setCell _ _ _ _ h.sep.1.2.1).trans h.ca, (Below.heap_setCell _ _ _ _ h.sep.1.2.2).trans h.ta, upd_put h.pa hj v, below_set h.out h.sep.2.2.2.1, h.own, h.sep⟩
/-! ### what holds between two rounds -/
def Held (D : DataW Unit) (t : Int) (l : List (List Int)) : Prop := ∀ b ∈ l, ∃ v : Int, b = [t, v] ∧ (0 ≤ v ∧ v ≤ 255) ∧ D.atKey (.string (kst t v).data.toList) (.lit (.int .i64 0)) = .lit (.int .i64 1)
theorem Held.put {D : DataW Unit} {t : Int} {l : List (List Int)} (h : Held D t l) (hm : IsMap D) (t' v' : Int) : Held (D.put (.string (kst t' v').data.toList) (.lit (.int .i64 1))) t l := by
  intro b hb
  obtain ⟨v, e, hv, hk⟩ := h b hb
  refine ⟨v, e, hv, ?_⟩
  by_cases c : (Lit.string (kst t v).data.toList) = .string (kst t' v').data.toList
  · rw [c, atKey_put_same hm (lawS.key (kst_key t' v'))]
  · rw [atKey_put_other c, hk]
theorem Held.new {D : DataW Unit} {t v : Int} (hm : IsMap D) (hv : 0 ≤ v ∧ v ≤ 255) : Held (D.put (.string (kst t v).data.toList) (.lit (.int .i64 1))) t [[t, v]] := by
  intro b hb
  exact ⟨v, List.mem_singleton.1 hb, hv, atKey_put_same hm (lawS.key (kst_key t v)) _ _⟩
theorem Held.app {D : DataW Unit} {t : Int} {l : List (List Int)} (h : Held D t l) {b : List Int} (hb : Held D t [b]) : Held D t (l ++ [b]) := by
  intro x hx
  rcases List.mem_append.1 hx with hx | hx
  · exact h x hx
  · exact hb x hx
theorem Held.sub {D : DataW Unit} {t : Int} {l l' : List (List Int)} (h : Held D t l) (hs : ∀ x ∈ l', x ∈ l) : Held D t l' := fun b hb => h b (hs b hb)
theorem isMap_put {D : DataW Unit} (h : IsMap D) (kl : Lit) (d : DataW Unit) : IsMap (D.put kl d) := by
  obtain ⟨es, rfl⟩ := h
  exact ⟨_, rfl⟩
structure OInv (room : Int) (i : Nat) (n : NtS) (D : DataW Unit) (c t p : Nat → Int) : Prop where
  room : n.room = room
  e : ∀ j : Nat, j < 2 → p j + c j = t j + (n.way (j : Int)).length
  bd : ∀ j : Nat, j < 2 → (0 ≤ c j ∧ c j ≤ i) ∧ (0 ≤ t j ∧ t j ≤ i) ∧ (0 ≤ p j ∧ p j ≤ i)
  m : IsMap D
  k : ∀ j : Nat, j < 2 → Held D (j : Int) (n.way (j : Int))
theorem way_set {n : NtS} {j q : Nat} (hj : j < 2) (hq : q < 2) (l : List (List Int)) : (n.setWay (j : Int) l).way (q : Int) = if q = j then l else n.way (q : Int) := by
  obtain rfl | rfl : j = 0 ∨ j = 1 := by omega
  · obtain rfl | rfl : q = 0 ∨ q = 1 := by omega
    · rfl
    · rfl
  · obtain rfl | rfl : q = 0 ∨ q = 1 := by omega
    · rfl
    · rfl
theorem set_room {n : NtS} {j : Int} (l : List (List Int)) : (n.setWay j l).room = n.room := by unfold NtS.setWay; split <;> rfl
theorem one_j {j : Nat} (hj : j < 2) : NtS.one (j : Int) := by
  obtain rfl | rfl : j = 0 ∨ j = 1 := by omega
  · exact .inl rfl
  · exact .inr rfl
variable {room : Int} {i : Nat}
theorem OInv.same (h : OInv room i n D c t p) : OInv room (i + 1) n D c t p :=
  ⟨h.room, h.e, fun j hj => by obtain ⟨a, b, d⟩ := h.bd j hj; exact ⟨⟨a.1, by omega⟩, ⟨b.1, by omega⟩, ⟨d.1, by omega⟩⟩, h.m, h.k⟩
theorem OInv.cut (h : OInv room i n D c t p) (is : Bool) : OInv room i (n.setCut is) D c t p := ⟨h.room, h.e, h.bd, h.m, h.k⟩
theorem OInv.putted (h : OInv room i n D c t p) {j : Nat} (hj : j < 2) {v : Int} (hv : 0 ≤ v ∧ v ≤ 255) :
    OInv room (i + 1) (n.setWay (j : Int) (n.way (j : Int) ++ [[(j : Int), v]])) (D.put (.string (kst (j : Int) v).data.toList) (.lit (.int .i64 1))) c t (upd p j (p j + 1)) := by
  refine ⟨(set_room _).trans h.room, fun q hq => ?_, fun q hq => ?_, isMap_put h.m _ _, fun q hq => ?_⟩
  · rw [way_set hj hq]
    have := h.e q hq
    unfold upd
    by_cases e : q = j
    · subst e; rw [if_pos rfl, if_pos rfl, List.length_append, List.length_singleton]; omega
    · rw [if_neg e, if_neg e]; exact this
  · obtain ⟨a, b, d⟩ := h.bd q hq
    obtain ⟨_, _, d'⟩ := h.bd j hj
    refine ⟨⟨a.1, by omega⟩, ⟨b.1, by omega⟩, ?_⟩
    unfold upd
    split <;> omega
  · rw [way_set hj hq]
    by_cases e : q = j
    · subst e; rw [if_pos rfl]; exact ((h.k q hq).put h.m _ _).app (Held.new h.m hv)
    · rw [if_neg e]; exact (h.k q hq).put h.m _ _
theorem OInv.copied (h : OInv room i n D c t p) {j : Nat} (hj : j < 2) {b : List Int} (hb : b ∈ n.way (j : Int)) : OInv room (i + 1) (n.setWay (j : Int) (n.way (j : Int) ++ [b])) D (upd c j (c j + 1)) t p := by
  refine ⟨(set_room _).trans h.room, fun q hq => ?_, fun q hq => ?_, h.m, fun q hq => ?_⟩
  · rw [way_set hj hq]
    have := h.e q hq
    unfold upd
    by_cases e : q = j
    · subst e; rw [if_pos rfl, if_pos rfl, List.length_append, List.length_singleton]; omega
    · rw [if_neg e, if_neg e]; exact this
  · obtain ⟨a, b, d⟩ := h.bd q hq
    obtain ⟨a', _, _⟩ := h.bd j hj
    refine ⟨?_, ⟨b.1, by omega⟩, ⟨d.1, by omega⟩⟩
    unfold upd
    split <;> omega
  · rw [way_set hj hq]
    by_cases e : q = j
    · subst e; rw [if_pos rfl]; exact (h.k q hq).app ((h.k q hq).sub (fun x hx => by rw [List.mem_singleton.1 hx]; exact hb))
    · rw [if_neg e]; exact h.k q hq
theorem OInv.lost (h : OInv room i n D c t p) {j : Nat} (hj : j < 2) {q0 : Nat} (hb : q0 < (n.way (j : Int)).length) : OInv room (i + 1) (n.setWay (j : Int) ((n.way (j : Int)).eraseIdx q0)) D c (upd t j (t j + 1)) p := by
  refine ⟨(set_room _).trans h.room, fun q hq => ?_, fun q hq => ?_, h.m, fun q hq => ?_⟩
  · rw [way_set hj hq]
    have := h.e q hq
    unfold upd
    by_cases e : q = j
    · subst e; rw [if_pos rfl, if_pos rfl, List.length_eraseIdx, if_pos hb]; omega
    · rw [if_neg e, if_neg e]; exact this
  · obtain ⟨a, b, d⟩ := h.bd q hq
    obtain ⟨_, b', _⟩ := h.bd j hj
    refine ⟨⟨a.1, by omega⟩, ?_, ⟨d.1, by omega⟩⟩
    unfold upd
    split <;> omega
  · rw [way_set hj hq]
    by_cases e : q = j
    · subst e; rw [if_pos rfl]; exact (h.k q hq).sub (fun x hx => List.mem_of_mem_eraseIdx hx)
    · rw [if_neg e]; exact h.k q hq
theorem put_ok {j : Nat} (hj : j < 2) {b : List Int} (h : (n.put (j : Int) b).1 = 0) : (n.put (j : Int) b).2 = n.setWay (j : Int) (n.way (j : Int) ++ [b]) := by
  unfold NtS.put at h ⊢
  rw [if_neg (fun hn => hn (one_j hj))] at h ⊢
  split at h
  · cases h
  · rename_i h1
    rw [if_neg h1]
    split at h
    · cases h
    · rename_i h2
      rw [if_neg h2]
theorem put_no {j : Nat} (hj : j < 2) {b : List Int} (h : (n.put (j : Int) b).1 ≠ 0) : (n.put (j : Int) b).2 = n := by
  unfold NtS.put at h ⊢
  rw [if_neg (fun hn => hn (one_j hj))] at h ⊢
  split at h
  · rename_i h1; rw [if_pos h1]
  · rename_i h1
    rw [if_neg h1]
    split at h
    · rename_i h2; rw [if_pos h2]
    · exact absurd rfl h
theorem place_ok {j : Nat} (hj : j < 2) {a : Int} (h : n.place (j : Int) a = 0) : 0 ≤ a ∧ a.toNat < (n.way (j : Int)).length := by
  unfold NtS.place at h
  rw [if_neg (fun hn => hn (one_j hj))] at h
  split at h
  · cases h
  · rename_i h1
    omega
theorem copy_ok {j : Nat} {a : Int} (h : (n.copy (j : Int) a).1 = 0) : n.place (j : Int) a = 0 ∧ (n.copy (j : Int) a).2 = n.setWay (j : Int) (n.way (j : Int) ++ [(n.way (j : Int)).getD a.toNat []]) := by
  unfold NtS.copy at h ⊢
  by_cases hp : n.place (j : Int) a = 0
  · rw [if_pos hp] at h ⊢
    split at h
    · cases h
    · rename_i h1
      rw [if_neg h1]
      exact ⟨hp, rfl⟩
  · rw [if_neg hp] at h
    exact absurd h hp
theorem copy_no {j : Nat} {a : Int} (h : (n.copy (j : Int) a).1 ≠ 0) : (n.copy (j : Int) a).2 = n := by
  unfold NtS.copy at h ⊢
  by_cases hp : n.place (j : Int) a = 0
  · rw [if_pos hp] at h ⊢
    split at h
    · rename_i h1; rw [if_pos h1]
    · exact absurd rfl h
  · rw [if_neg hp]
theorem len_j {j : Nat} (hj : j < 2) : n.len (j : Int) = (n.way (j : Int)).length := by unfold NtS.len; rw [if_pos (one_j hj)]
theorem way_in (hok : n.ok) (j : Nat) : ((n.way (j : Int)).length : Int) ≤ n.room ∧ n.room ≤ 1000 := ⟨(NtS.ok_way hok _).1, hok.2.1⟩
theorem getD_mem {l : List (List Int)} {q : Nat} (h : q < l.length) : l.getD q [] ∈ l := by rw [List.getD_eq_getElem?_getD, List.getElem?_eq_getElem h]; exact List.getElem_mem h
end Go.Proofs.Ytokcplapbjhnoaa
