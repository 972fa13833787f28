/-
  route.Lean and route.Best: walked by hand (a map of the call's own whose keys are structs; a closure that captures the loop's variable). Condition: numbers in their kinds' range.
-/
import Derived.Deep.QuietTactic
import Derived.Maps.Own
import Derived.Maps.Views
import Derived.DeepKeys5
import Derived.Carry
import Derived.Test.YteniakelhalojaaPLong
import Derived.Test.YteniakelhalojaaHEncode
namespace Go.Proofs.Yteniakelhalojaa
open Go.RowKit Go.Maps Go.Proofs.Yteniakelhalojaa.Pn Go.Proofs.Yteniakelhalojaa.PR Go.Proofs.YteniakelhalojaaW.PrintWords Go.Proofs.YteniakelhalojaaW.PrintLast Go.Proofs.YteniakelhalojaaW.PrintMore
attribute [local go_sem] max2_int min2_int max_two min_two max_three min_three max_four min_four
set_option linter.unusedVariables false
set_option linter.unusedSimpArgs false

/-! ### the map's keys -/
theorem laidOutT : laidOutB Try.prog = true := by kernel_rfl
theorem lawK : Keyed Try.prog 52 := Keyed.of_law (deep_law_gate laidOutT (of_decide_eq_true (by kernel_rfl)) (of_decide_eq_true (by kernel_rfl)) (by kernel_rfl) (by kernel_rfl))
theorem zeroB (w : World) : (zeroValue 4).run Try.prog w = .ok (.bool false) w := by kernel_rfl
def keyL (a b : Int) : Lit := .string (keyBytes [.int .u32 a, .int .i64 b])
theorem key_ofP (P : Program) (k t0 t1 m : Nat) (f0 f1 : Field) (h0 : P.underlying k = some (.struct #[f0, f1])) (h1 : P.keyType k = true) (h2 : P.cellsOf k = 2) (e0 : f0.type = t0 ∧ f0.offset = 0 ∧ f0.name ≠ "_") (e1 : f1.type = t1 ∧ f1.offset = 1 ∧ f1.name ≠ "_")
    (h3 : P.cellsOf t0 = 1) (h4 : P.cellsOf t1 = 1) (hm : P.types.size = m + 1) (u2 : P.underlying t0 = some (.int .u32)) (u3 : P.underlying t1 = some (.int .i64)) (a b : Int) (ha : (Lit.int .u32 a).wf = true) (hb : (Lit.int .i64 b).wf = true) :
    keyOf P k (.agg #[.int .u32 a, .int .i64 b]) = some (keyL a b) := by
  obtain ⟨e01, e02, e03⟩ := e0
  obtain ⟨e11, e12, e13⟩ := e1
  simp [keyOf, h0, h1, Value.formed, h2, Value.cells, hm, Program.keyLits, e01, e02, e03, e11, e12, e13, h3, h4, u2, u3, ha, hb, keyL]
theorem key_of (a b : Int) (ha : (Lit.int .u32 a).wf = true) (hb : (Lit.int .i64 b).wf = true) : keyOf Try.prog 52 (.agg #[.int .u32 a, .int .i64 b]) = some (keyL a b) :=
  key_ofP Try.prog 52 30 3 (Try.prog.types.size - 1) _ _ Try.underlying52 (by kernel_rfl) (by kernel_rfl) ⟨rfl, rfl, by decide⟩ ⟨rfl, rfl, by decide⟩ (by kernel_rfl) (by kernel_rfl) (by kernel_rfl) Try.underlying30 Try.underlying3 a b ha hb
theorem keyL_inj {a b a' b' : Int} (ha : (Lit.int .u32 a).wf = true) (hb : (Lit.int .i64 b).wf = true) (ha' : (Lit.int .u32 a').wf = true) (hb' : (Lit.int .i64 b').wf = true) (h : keyL a b = keyL a' b') : a = a' ∧ b = b' := by
  have e := lawK.inj (key_of a b ha hb) (by rw [h]; exact key_of a' b' ha' hb')
  simpa using e
theorem look_bool {w : World} {bm n : Nat} {D : DataW Unit} (h : w.ownsMap Try.prog 52 (plainElem Try.prog 4) bm n D) {key : Value} {kl : Lit} (hkey : keyOf Try.prog 52 key = some kl) {s : Bool} (hs : D.atKey kl (.lit (.bool false)) = .lit (.bool s)) :
    (Instr.lookup 50 (.map (some bm)) key false).run Try.prog w = .ok (.bool s) w := by
  obtain ⟨v, ps, hr, hv⟩ := h.lookup lawK Try.underlying50 (zeroB w) (plainElem_bool Try.underlying4 false) hkey
  rw [hs] at hv
  unfold plainElem at hv
  rw [Try.underlying4] at hv
  cases v <;> simp at hv
  rw [hr, hv.1]
/-! ### the tests -/
theorem cell_below {w W : World} {a : Addr} {v : Value} (hb : Below w.heap.size w W) (h : w.cell? a = some v) : W.cell? a = some v := (hb.cell (World.block_lt_of_cell? w _ h)).trans h
set_option maxHeartbeats 1000000 in
theorem lean1_calls (f0 f1 f2 xb : Int) (gx : Nat) (w : World) (h : w.cell? ⟨gx, 1, none⟩ = some (.int .i64 xb)) :
    Calls Try.prog 30 #[.agg #[.int .u32 f0, .int .i64 f1, .int .u32 f2], .pointer (some ⟨gx, 0, none⟩)] w fun e w' => e = .returned (.bool (decide (f1 < xb))) ∧ Below w.heap.size w w' := by
  have hu32 := Try.underlying32
  have H := Lib.hid h
  clear h
  go_enter Try.func30, Try.ntmps30
  go_upto_region 1 with fail
  obtain ⟨gy, hgy⟩ : ∃ g, w.heap.size = g := ⟨_, rfl⟩
  obtain ⟨W1, hW1⟩ : ∃ W, w.alloc (.cells #[.int .u32 f0, .int .i64 f1, .int .u32 f2] 32) = W := ⟨_, rfl⟩
  have BK : W1.heap[gy]? = some (.cells #[.int .u32 f0, .int .i64 f1, .int .u32 f2] 32 (0, 0)) := by rw [← hW1, ← hgy]; exact blk_new _ _
  have HB : Hid (Below w.heap.size w W1) := by show Below _ _ _; rw [← hW1]; exact below_alloc (Below.refl _ _) _
  rw [hgy, hW1]
  clear hW1 hgy
  have u1 := (blk_cell BK 1).trans rfl
  have x1 := cell_below HB.out H.out
  clear BK H
  go_wp2
  go_ret
  exact ⟨rfl, HB.out⟩
set_option maxHeartbeats 1000000 in
theorem best1_calls (f0 f1 f2 : Int) (w : World) : Calls Try.prog 29 #[.agg #[.int .u32 f0, .int .i64 f1, .int .u32 f2]] w fun e w' => e = .returned (.bool true) ∧ Below w.heap.size w w' := by
  go_enter Try.func29, Try.ntmps29
  go_wp2
  go_ret
  exact ⟨rfl, below_alloc (Below.refl _ _) _⟩
def rtFine (x : Rt) : Prop := (Lit.int .u32 x.f0).wf = true ∧ (Lit.int .i64 x.f1).wf = true ∧ (Lit.int .u32 x.f2).wf = true
instance (x : Rt) : Decidable (rtFine x) := by unfold rtFine; infer_instance
def route_Best.f (l0 : List Rt) (a : Int) : Option Int := if (∀ x ∈ l0, rtFine x) ∧ (Lit.int .u32 a).wf = true ∧ l0.length < 1099511627776 then some (lgUp (fun _ => true) a l0 l0.length) else none
theorem route_Best.calls (A0 : Option Addr) (c0 : Nat) (l0 : List Rt) (a1 : Int) (r : Int) (w : World) (hr0 : Kd.C k32 w A0 l0.length l0) (hc0 : l0.length ≤ c0) (h : route_Best.f l0 a1 = some r) :
    Calls Try.prog 15 #[.slice A0 l0.length c0, .int .u32 a1] w fun e w' => e = .returned (.int .i64 r) ∧ Below w.heap.size w w' := by
  unfold route_Best.f at h
  split at h
  case isFalse => cases h
  rename_i hc
  obtain ⟨h1, h2, h3⟩ := hc
  have HE := Lib.hid ((longG_eq (fun _ => true) a1 l0 (by omega) (fun x hx => okU_wf (h1 x hx).1) (okU_wf h2)).trans h)
  have HR0 := Lib.hid hr0
  clear hr0 h h1 h2
  go_enter Try.func15, Try.ntmps15
  go_wp2_with fail
  refine (longG.calls (fun _ => true) 29 #[] (fun args w => enters_ Try.func29 (by kernel_rfl) rfl args w) (l0.length + 1) A0 c0 l0 a1 r _ HR0.out hc0 ?_ HE.out).mono ?_
  · intro f0 f1 f2 b W hW hb
    obtain rfl : true = b := Option.some.inj hb
    exact best1_calls f0 f1 f2 W
  rintro e w' ⟨rfl, hb⟩
  have HB := Lib.hid hb
  clear hb
  go_wp2_with fail
  go_ret
  exact ⟨rfl, HB.out⟩
/-! ### route.Lean -/
theorem rinfoL : (Try.prog.info? 32).map (fun i => (i.zero, i.size, i.bytes)) = some (some (.agg #[.int .u32 0, .int .i64 0, .int .u32 0]), 3, 24) := by kernel_rfl
def seenB (l : List Rt) (i : Nat) (x : Rt) : Bool := (l.take i).any (fun y => y.f0 == x.f0 && y.f1 == x.f1)
def upR (l : List Rt) (x : Rt) : Int := lgUp (fun y => decide (y.f1 < x.f1)) x.f0 l l.length
def leanX (l : List Rt) (s : Bool) (x : Rt) : Bool := !s && (rtRight x && (upR l x == -1 || (l.getD (upR l x).toNat d0).f2 != x.f2))
def leanUp (l : List Rt) : Nat → List Rt
  | 0 => []
  | i + 1 => if leanX l (seenB l i (l.getD i d0)) (l.getD i d0) = true then leanUp l i ++ [l.getD i d0] else leanUp l i
theorem leanUp_len (l : List Rt) : ∀ i, (leanUp l i).length ≤ i := by
  intro i
  induction i with
  | zero => simp [leanUp]
  | succ i ih =>
    unfold leanUp
    split
    · rw [List.length_append, List.length_singleton]; omega
    · omega
structure MapOk (l : List Rt) (i : Nat) (D : DataW Unit) : Prop where
  isMap : IsMap D
  at_ : ∀ y ∈ l, D.atKey (keyL y.f0 y.f1) (.lit (.bool false)) = .lit (.bool (seenB l i y))
theorem map_step (l : List Rt) (hf : ∀ x ∈ l, rtFine x) {i : Nat} {x : Rt} (hi : i < l.length) (hx : l.getD i d0 = x) {D : DataW Unit} (h : MapOk l i D) : MapOk l (i + 1) (D.put (keyL x.f0 x.f1) (.lit (.bool true))) := by
  have hg := (getD_at l hi).symm.trans hx
  have hxm : x ∈ l := hg ▸ List.getElem_mem hi
  have hfx := hf x hxm
  refine ⟨?_, fun y hy => ?_⟩
  · obtain ⟨es, rfl⟩ := h.isMap
    exact ⟨_, rfl⟩
  · have hfy := hf y hy
    have e : seenB l (i + 1) y = (seenB l i y || (x.f0 == y.f0 && x.f1 == y.f1)) := by
      unfold seenB
      rw [List.take_succ_eq_append_getElem hi, List.any_append, hg]
      simp
    rw [e]
    by_cases c : keyL y.f0 y.f1 = keyL x.f0 x.f1
    · obtain ⟨c0, c1⟩ := keyL_inj hfy.1 hfy.2.1 hfx.1 hfx.2.1 c
      rw [c, atKey_put_same h.isMap (lawK.key (key_of x.f0 x.f1 hfx.1 hfx.2.1)), c0, c1]
      simp
    · have hne : (x.f0 == y.f0 && x.f1 == y.f1) = false := by
        rw [Bool.and_eq_false_iff]
        by_cases c0 : x.f0 = y.f0
        · right
          exact beq_eq_false_iff_ne.2 (fun c1 => c (by rw [c0, c1]))
        · left
          exact beq_eq_false_iff_ne.2 c0
      rw [atKey_put_other c, h.at_ y hy, hne, Bool.or_false]
theorem map_below {w W : World} {bm n : Nat} {D : DataW Unit} (h : w.ownsMap Try.prog 52 (plainElem Try.prog 4) bm n D) (hb : Below w.heap.size w W) : W.ownsMap Try.prog 52 (plainElem Try.prog 4) bm n D := by
  have hlt := h.lt
  obtain ⟨es, clock, h1, h2⟩ := h
  exact ⟨es, clock, (hb.block bm hlt).trans h1, h2⟩
theorem R_mapne {w : World} {bm n : Nat} {D : DataW Unit} {base : Nat} {ok : Nat → Prop} {v : Value} {xs : List Rt} (h : Kd.R k32 32 w base ok v xs) (hm : w.ownsMap Try.prog 52 (plainElem Try.prog 4) bm n D) : some bm ≠ v.ownBlock := by
  intro e
  obtain ⟨cells, hc⟩ := Kd.R_typed h bm e.symm
  obtain ⟨es, clock, h1, _⟩ := hm
  rw [h1] at hc
  cases hc
theorem R_map {w W : World} {bm n : Nat} {D : DataW Unit} {base : Nat} {v : Value} {xs : List Rt} (h : Kd.R k32 32 w base (fun _ => True) v xs) (hm : w.ownsMap Try.prog 52 (plainElem Try.prog 4) bm n D) (hg : w.grownBy W (some bm)) : Kd.R k32 32 W base (fun _ => True) v xs := by
  refine Kd.R_mono (Kd.R_move (Kd.R_bound h) (fun k hk => ?_)) (fun _ _ => trivial)
  obtain ⟨_, _, hlt, q, _, cells, hc⟩ := hk
  refine hg.block k hlt ?_
  intro e
  obtain rfl := Option.some.inj e
  obtain ⟨es, clock, h1, _⟩ := hm
  rw [h1] at hc
  cases hc
def route_Lean.f (l0 : List Rt) : Option (List Rt) := if (∀ x ∈ l0, rtFine x) ∧ l0.length < 1099511627776 then some (leanUp l0 l0.length) else none
set_option maxHeartbeats 4000000 in
set_option maxRecDepth 100000 in
theorem route_Lean.calls (A0 : Option Addr) (c0 : Nat) (l0 : List Rt) (r : List Rt) (w : World) (hr0 : Kd.C k32 w A0 l0.length l0) (hc0 : l0.length ≤ c0) (h : route_Lean.f l0 = some r) :
    Calls Try.prog 17 #[.slice A0 l0.length c0] w fun e w' => ∃ v0_ : Value, e = .returned v0_ ∧ Kd.R k32 32 w' w.heap.size (fun _ => True) v0_ r ∧ Below w.heap.size w w' := by
  unfold route_Lean.f at h
  split at h
  case isFalse => cases h
  rename_i hcond
  obtain rfl := Option.some.inj h
  have HFINE := Lib.hid hcond.1
  have HLEN := Lib.hid hcond.2
  have HR0 := Lib.hid hr0
  clear hr0 h hcond
  have hu32 := Try.underlying32
  have hu52 := Try.underlying52
  have hmm := @run_makeMap Try.prog
  obtain ⟨bm, hbm⟩ : ∃ b, w.heap.size = b := ⟨_, rfl⟩
  have HBM : Hid (w.heap.size ≤ bm) := Lib.hid (Nat.le_of_eq hbm)
  have HM0 : Hid ((w.alloc (.map #[] 0)).ownsMap Try.prog 52 (plainElem Try.prog 4) bm 0 (.map [] : DataW Unit)) := by show World.ownsMap _ _ _ _ _ _ _; rw [← hbm]; exact World.ownsMap_made _ _ _ _
  go_enter Try.func17, Try.ntmps17
  go_wp2_with fail
  try rw [hbm]
  clear hbm
  go_loopg [4, 12] (l0.length + 1) (fun kq v4 v12 wr => ∃ (i : Nat) (D : DataW Unit), v12 = .int .i64 i ∧ Hid (i ≤ l0.length ∧ l0.length + 1 ≤ kq + i) ∧ Hid (Kd.R k32 32 wr w.heap.size (fun _ => True) v4 (leanUp l0 i)) ∧ Hid (wr.ownsMap Try.prog 52 (plainElem Try.prog 4) bm i D) ∧ Hid (MapOk l0 i D) ∧ Hid (Below w.heap.size w wr))
  case atStart => exact ⟨0, _, rfl, Lib.hid (by omega), Lib.hid (Kd.R_nil _ _ _ _ _), HM0, Lib.hid ⟨⟨_, rfl⟩, fun y _ => rfl⟩, Lib.hid (below_alloc (Below.refl _ _) _)⟩
  case round =>
    clear HM0
    obtain ⟨i, D, rfl, HI, HO, HM, HMO, HB⟩ := hrel
    by_cases h : i < l0.length
    · skip
      obtain ⟨x, hx⟩ : ∃ x, l0[i] = x := ⟨_, rfl⟩
      have HXE : Hid (l0.getD i d0 = x) := (getD_at l0 h).trans hx
      have hfx : rtFine x := HFINE.out x (hx ▸ List.getElem_mem h)
      have HKEY := Lib.hid (key_of x.f0 x.f1 hfx.1 hfx.2.1)
      have HLT := Lib.hid h
      obtain ⟨ad, ea, hx0, hx1, hx2⟩ := at_T32 HR0.out (i : Int) (by omega) (by omega)
      cases ea
      rw [rd_rt l0 h, hx, Int.toNat_natCast] at hx0 hx1 hx2
      replace hx0 := cell_below HB.out hx0
      replace hx1 := cell_below HB.out hx1
      replace hx2 := cell_below HB.out hx2
      have p0 : (0 ≤ (i : Int)) = True := eq_true (by omega)
      have p1 : ((i : Int) < (l0.length : Int)) = True := eq_true (by omega)
      have p2 : (i < l0.length) = True := eq_true h
      have HE := Lib.hid (longG_eq (fun y => decide (y.f1 < x.f1)) x.f0 l0 (by have := HLEN.out; omega) (fun y hy => okU_wf (HFINE.out y hy).1) (okU_wf hfx.1))
      have HSEEN := Lib.hid (HMO.out.at_ x (hx ▸ List.getElem_mem h))
      have HXM : Hid (x ∈ l0) := hx ▸ List.getElem_mem h
      clear h hx hfx
      go_upto_region 6 with fail
      obtain ⟨gx, hgx⟩ : ∃ g, wr.heap.size = g := ⟨_, rfl⟩
      obtain ⟨W1, hW1⟩ : ∃ W, wr.alloc (.cells #[.int .u32 x.f0, .int .i64 x.f1, .int .u32 x.f2] 32) = W := ⟨_, rfl⟩
      have BKX : Hid (W1.heap[gx]? = some (.cells #[.int .u32 x.f0, .int .i64 x.f1, .int .u32 x.f2] 32 (0, 0))) := by show _ = _; rw [← hW1, ← hgx]; exact blk_new _ _
      have hb1 : Below wr.heap.size wr W1 := by rw [← hW1]; exact below_alloc (Below.refl _ _) _
      have HM1 := Lib.hid (map_below HM.out hb1)
      have HO1 := Lib.hid (Kd.R_below HO.out hb1)
      have HB1 := Lib.hid (HB.out.trans (hb1.mono HB.out.size))
      rw [hgx, hW1]
      clear hW1 hgx hb1 HM HO HB hx0 hx1 hx2
      have x0 := (blk_cell BKX.out 0).trans rfl
      have x1 := (blk_cell BKX.out 1).trans rfl
      go_upto_region 7 with fail
      obtain ⟨gk2, hgk⟩ : ∃ g, W1.heap.size = g := ⟨_, rfl⟩
      obtain ⟨W2, hW2⟩ : ∃ W, W1.alloc (.cells #[.int .u32 x.f0, .int .i64 x.f1] 52) = W := ⟨_, rfl⟩
      have BKK : Hid (W2.heap[gk2]? = some (.cells #[.int .u32 x.f0, .int .i64 x.f1] 52 (0, 0))) := by show _ = _; rw [← hW2, ← hgk]; exact blk_new _ _
      have hb2 : Below W1.heap.size W1 W2 := by rw [← hW2]; exact below_alloc (Below.refl _ _) _
      have BKX2 : Hid (W2.heap[gx]? = some (.cells #[.int .u32 x.f0, .int .i64 x.f1, .int .u32 x.f2] 32 (0, 0))) := (hb2.block gx (blk_lt BKX.out)).trans BKX.out
      have HM := Lib.hid (map_below HM1.out hb2)
      have HO := Lib.hid (Kd.R_below HO1.out hb2)
      have HB := Lib.hid (HB1.out.trans (hb2.mono HB1.out.size))
      rw [hgk, hW2]
      clear hW2 hgk hb2 HM1 HO1 HB1 BKX x0 x1
      have BKX := BKX2
      clear BKX2
      have x0 := (blk_cell BKX.out 0).trans rfl
      go_wp2_with fail
      refine (longG.calls (fun y => decide (y.f1 < x.f1)) 30 #[.pointer (some ⟨gx, 0, none⟩)] (fun args w => enters_ Try.func30 (by kernel_rfl) rfl args w) (l0.length + 1) (some ad) c0 l0 x.f0 _ _ (Kd.C_below HR0.out HB.out) hc0 ?_ HE.out).mono ?_
      · intro f0 f1 f2 b W hW hb
        obtain rfl : decide (f1 < x.f1) = b := Option.some.inj hb
        exact lean1_calls f0 f1 f2 x.f1 gx W (cell_below hW ((blk_cell BKX.out 1).trans rfl))
      rintro e W3 ⟨rfl, hbv⟩
      clear x0
      have BKX2 : Hid (_ = some _) := (hbv.block _ (blk_lt BKX.out)).trans BKX.out
      have BKK2 : Hid (_ = some _) := (hbv.block _ (blk_lt BKK.out)).trans BKK.out
      have HM2 := Lib.hid (map_below HM.out hbv)
      have HO2 := Lib.hid (Kd.R_below HO.out hbv)
      have HB2 := Lib.hid (HB.out.trans (hbv.mono HB.out.size))
      clear BKX BKK HM HO HB
      have BKX := BKX2
      have BKK := BKK2
      have HM := HM2
      have HO := HO2
      have HB := HB2
      clear BKX2 BKK2 HM2 HO2 HB2 hbv
      obtain ⟨up, hup⟩ : ∃ u, lgUp (fun y => decide (y.f1 < x.f1)) x.f0 l0 l0.length = u := ⟨_, rfl⟩
      have HUR : Hid (-1 ≤ up ∧ up < l0.length) := by show _ ∧ _; rw [← hup]; exact lgUp_in _ _ _ _
      have HUP : Hid (upR l0 x = up) := hup
      rw [hup]
      clear hup HE
      obtain ⟨sb, hsb⟩ : ∃ s, seenB l0 i x = s := ⟨_, rfl⟩
      have HSB : Hid (D.atKey (keyL x.f0 x.f1) (.lit (.bool false)) = .lit (.bool sb)) := by show _ = _; rw [← hsb]; exact HSEEN.out
      have HSX := Lib.hid hsb
      clear hsb HSEEN
      obtain ⟨rb, hrb⟩ : ∃ q, rtRight x = q := ⟨_, rfl⟩
      have HRC := Lib.hid (fun W => route_Right.calls x.f0 x.f1 x.f2 (rtRight x) W (right_total x))
      rw [hrb] at HRC
      have HRB := Lib.hid hrb
      clear hrb
      have LX : Hid (∀ q, leanX l0 sb x = q → leanUp l0 (i + 1) = if q = true then leanUp l0 i ++ [x] else leanUp l0 i) := by
        intro q hq
        show (if leanX l0 (seenB l0 i (l0.getD i d0)) (l0.getD i d0) = true then leanUp l0 i ++ [l0.getD i d0] else leanUp l0 i) = _
        rw [HXE.out, HSX.out, hq]
      cases sb with
      | true =>
        have HUPD : Hid (leanUp l0 (i + 1) = leanUp l0 i) := LX.out false rfl
        clear LX
        have k0 := (blk_cell BKK.out 0).trans rfl
        go_wp2_with fail
        clear k0
        refine start_ (n := 22) (S := fun w' => w'.cell? ⟨gx, 0, none⟩ = some (.int .u32 x.f0) ∧ w'.cell? ⟨gx, 1, none⟩ = some (.int .i64 x.f1) ∧ w'.cell? ⟨gx, 2, none⟩ = some (.int .u32 x.f2) ∧ w'.cell? ⟨gk2, 0, none⟩ = some (.int .u32 x.f0) ∧ w'.cell? ⟨gk2, 1, none⟩ = some (.int .i64 x.f1) ∧ (Instr.lookup 50 (.map (some bm)) (.agg #[.int .u32 x.f0, .int .i64 x.f1]) false).run Try.prog w' = .ok (.bool true) w') (ds := []) #[false, false, false, false, false, false, false, false, false, false, false, false, false, false, false, false, false, false, false, false, false, false] (by kernel_rfl) rfl rfl ⟨(blk_cell BKX.out 0).trans rfl, (blk_cell BKX.out 1).trans rfl, (blk_cell BKX.out 2).trans rfl, (blk_cell BKK.out 0).trans rfl, (blk_cell BKK.out 1).trans rfl, look_bool (HM.out.drew) HKEY.out HSB.out⟩ (fun hHeld => ?_)
        obtain ⟨WD, hWD⟩ : ∃ W, W3.drew = W := ⟨_, rfl⟩
        have hbv : Below W3.heap.size W3 WD := by rw [← hWD]; exact below_drew (Below.refl _ _)
        rw [hWD] at hHeld ⊢
        clear hWD
        have BKX2 : Hid (_ = some _) := (hbv.block _ (blk_lt BKX.out)).trans BKX.out
        have BKK2 : Hid (_ = some _) := (hbv.block _ (blk_lt BKK.out)).trans BKK.out
        have HM2 := Lib.hid (map_below HM.out hbv)
        have HO2 := Lib.hid (Kd.R_below HO.out hbv)
        have HB2 := Lib.hid (HB.out.trans (hbv.mono HB.out.size))
        clear BKX BKK HM HO HB
        have BKX := BKX2
        have BKK := BKK2
        have HM := HM2
        have HO := HO2
        have HB := HB2
        clear BKX2 BKK2 HM2 HO2 HB2 hbv
        refine pure_ (i := 0) (N := some 26) (v := ?_) (a' := ?_) #[true, false, false, false, false, false, false, false, false, false, false, false, false, false, false, false, false, false, false, false, false, false] rfl rfl (by kernel_rfl) (fun _ _ _ h => h) (Or.inl ⟨by rfl, ?_⟩) ?_ ?_
        rotate_left
        · intro w'
          go_simp
          with_reducible rfl
        rotate_left
        · simp only [Act.put, List.setIfInBounds_toArray, List.set_cons_zero, List.set_cons_succ, i64_w, i32_w]
          rfl
        refine take_ (i := 1) (N := some 27) (v := .agg #[.int .u32 x.f0, .int .i64 x.f1]) (a' := ?_) #[true, true, false, false, false, false, false, false, false, false, false, false, false, false, false, false, false, false, false, false, false, false] rfl rfl (by kernel_rfl) (fun _ _ _ h => h) (Or.inl ⟨by rfl, ?_⟩) hHeld ?_ ?_
        · rintro w' ⟨s0, s1, s2, s3, s4, s5⟩
          go_simp
          try (with_reducible rfl)
        rotate_left
        · simp only [Act.put, List.setIfInBounds_toArray, List.set_cons_zero, List.set_cons_succ, i64_w, i32_w]
          rfl
        refine take_ (i := 2) (N := some 28) (v := .bool true) (a' := ?_) #[true, true, true, false, false, false, false, false, false, false, false, false, false, false, false, false, false, false, false, false, false, false] rfl rfl (by kernel_rfl) (fun _ _ _ h => h) (Or.inl ⟨by rfl, ?_⟩) hHeld ?_ ?_
        · rintro w' ⟨s0, s1, s2, s3, s4, s5⟩
          go_simp
          try (with_reducible rfl)
        rotate_left
        · simp only [Act.put, List.setIfInBounds_toArray, List.set_cons_zero, List.set_cons_succ, i64_w, i32_w]
          rfl
        refine pure_ (i := 3) (N := some 29) (v := .bool false) (a' := ?_) #[true, true, true, true, false, false, false, false, false, false, false, false, false, false, false, false, false, false, false, false, false, false] rfl rfl (by kernel_rfl) (fun _ _ _ h => h) (Or.inl ⟨by rfl, ?_⟩) ?_ ?_
        · intro w'
          go_simp
          try (with_reducible rfl)
        rotate_left
        · simp only [Act.put, List.setIfInBounds_toArray, List.set_cons_zero, List.set_cons_succ, i64_w, i32_w]
          rfl
        refine pure_ (i := 4) (N := some 30) (v := .bool false) (a' := ?_) #[true, true, true, true, true, false, false, false, false, false, false, false, false, false, false, false, false, false, false, false, false, false] rfl rfl (by kernel_rfl) (fun _ _ _ h => h) (Or.inl ⟨by rfl, ?_⟩) ?_ ?_
        · intro w'
          go_simp
          try (with_reducible rfl)
        rotate_left
        · simp only [Act.put, List.setIfInBounds_toArray, List.set_cons_zero, List.set_cons_succ, i64_w, i32_w]
          rfl
        refine pure_ (i := 5) (N := some 31) (v := undef) (a' := ?_) #[true, true, true, true, true, true, false, false, false, false, false, false, false, false, false, false, false, false, false, false, false, false] rfl rfl (by kernel_rfl) (fun _ _ _ h => h) (Or.inr ⟨by rfl, rfl⟩) ?_ ?_
        rotate_left
        · simp only [Act.put, List.setIfInBounds_toArray, List.set_cons_zero, List.set_cons_succ, i64_w, i32_w]
          rfl
        refine pure_ (i := 6) (N := some 32) (v := undef) (a' := ?_) #[true, true, true, true, true, true, true, false, false, false, false, false, false, false, false, false, false, false, false, false, false, false] rfl rfl (by kernel_rfl) (fun _ _ _ h => h) (Or.inr ⟨by rfl, rfl⟩) ?_ ?_
        rotate_left
        · simp only [Act.put, List.setIfInBounds_toArray, List.set_cons_zero, List.set_cons_succ, i64_w, i32_w]
          rfl
        refine pure_ (i := 7) (N := some 33) (v := .bool false) (a' := ?_) #[true, true, true, true, true, true, true, true, false, false, false, false, false, false, false, false, false, false, false, false, false, false] rfl rfl (by kernel_rfl) (fun _ _ _ h => h) (Or.inl ⟨by rfl, ?_⟩) ?_ ?_
        · intro w'
          go_simp
          try (with_reducible rfl)
        rotate_left
        · simp only [Act.put, List.setIfInBounds_toArray, List.set_cons_zero, List.set_cons_succ, i64_w, i32_w]
          rfl
        refine pure_ (i := 8) (N := some 34) (v := .bool false) (a' := ?_) #[true, true, true, true, true, true, true, true, true, false, false, false, false, false, false, false, false, false, false, false, false, false] rfl rfl (by kernel_rfl) (fun _ _ _ h => h) (Or.inl ⟨by rfl, ?_⟩) ?_ ?_
        · intro w'
          go_simp
          try (with_reducible rfl)
        rotate_left
        · simp only [Act.put, List.setIfInBounds_toArray, List.set_cons_zero, List.set_cons_succ, i64_w, i32_w]
          rfl
        refine pure_ (i := 9) (N := some 35) (v := undef) (a' := ?_) #[true, true, true, true, true, true, true, true, true, true, false, false, false, false, false, false, false, false, false, false, false, false] rfl rfl (by kernel_rfl) (fun _ _ _ h => h) (Or.inr ⟨by rfl, rfl⟩) ?_ ?_
        rotate_left
        · simp only [Act.put, List.setIfInBounds_toArray, List.set_cons_zero, List.set_cons_succ, i64_w, i32_w]
          rfl
        refine pure_ (i := 10) (N := some 36) (v := undef) (a' := ?_) #[true, true, true, true, true, true, true, true, true, true, true, false, false, false, false, false, false, false, false, false, false, false] rfl rfl (by kernel_rfl) (fun _ _ _ h => h) (Or.inr ⟨by rfl, rfl⟩) ?_ ?_
        rotate_left
        · simp only [Act.put, List.setIfInBounds_toArray, List.set_cons_zero, List.set_cons_succ, i64_w, i32_w]
          rfl
        refine pure_ (i := 11) (N := some 37) (v := undef) (a' := ?_) #[true, true, true, true, true, true, true, true, true, true, true, true, false, false, false, false, false, false, false, false, false, false] rfl rfl (by kernel_rfl) (fun _ _ _ h => h) (Or.inr ⟨by rfl, rfl⟩) ?_ ?_
        rotate_left
        · simp only [Act.put, List.setIfInBounds_toArray, List.set_cons_zero, List.set_cons_succ, i64_w, i32_w]
          rfl
        refine pure_ (i := 12) (N := some 38) (v := undef) (a' := ?_) #[true, true, true, true, true, true, true, true, true, true, true, true, true, false, false, false, false, false, false, false, false, false] rfl rfl (by kernel_rfl) (fun _ _ _ h => h) (Or.inr ⟨by rfl, rfl⟩) ?_ ?_
        rotate_left
        · simp only [Act.put, List.setIfInBounds_toArray, List.set_cons_zero, List.set_cons_succ, i64_w, i32_w]
          rfl
        refine pure_ (i := 13) (N := some 39) (v := undef) (a' := ?_) #[true, true, true, true, true, true, true, true, true, true, true, true, true, true, false, false, false, false, false, false, false, false] rfl rfl (by kernel_rfl) (fun _ _ _ h => h) (Or.inr ⟨by rfl, rfl⟩) ?_ ?_
        rotate_left
        · simp only [Act.put, List.setIfInBounds_toArray, List.set_cons_zero, List.set_cons_succ, i64_w, i32_w]
          rfl
        refine pure_ (i := 14) (N := some 40) (v := undef) (a' := ?_) #[true, true, true, true, true, true, true, true, true, true, true, true, true, true, true, false, false, false, false, false, false, false] rfl rfl (by kernel_rfl) (fun _ _ _ h => h) (Or.inr ⟨by rfl, rfl⟩) ?_ ?_
        rotate_left
        · simp only [Act.put, List.setIfInBounds_toArray, List.set_cons_zero, List.set_cons_succ, i64_w, i32_w]
          rfl
        refine pure_ (i := 15) (N := some 41) (v := undef) (a' := ?_) #[true, true, true, true, true, true, true, true, true, true, true, true, true, true, true, true, false, false, false, false, false, false] rfl rfl (by kernel_rfl) (fun _ _ _ h => h) (Or.inr ⟨by rfl, rfl⟩) ?_ ?_
        rotate_left
        · simp only [Act.put, List.setIfInBounds_toArray, List.set_cons_zero, List.set_cons_succ, i64_w, i32_w]
          rfl
        refine pure_ (i := 16) (N := some 42) (v := undef) (a' := ?_) #[true, true, true, true, true, true, true, true, true, true, true, true, true, true, true, true, true, false, false, false, false, false] rfl rfl (by kernel_rfl) (fun _ _ _ h => h) (Or.inr ⟨by rfl, rfl⟩) ?_ ?_
        rotate_left
        · simp only [Act.put, List.setIfInBounds_toArray, List.set_cons_zero, List.set_cons_succ, i64_w, i32_w]
          rfl
        refine pure_ (i := 17) (N := some 43) (v := undef) (a' := ?_) #[true, true, true, true, true, true, true, true, true, true, true, true, true, true, true, true, true, true, false, false, false, false] rfl rfl (by kernel_rfl) (fun _ _ _ h => h) (Or.inr ⟨by rfl, rfl⟩) ?_ ?_
        rotate_left
        · simp only [Act.put, List.setIfInBounds_toArray, List.set_cons_zero, List.set_cons_succ, i64_w, i32_w]
          rfl
        refine pure_ (i := 18) (N := some 44) (v := undef) (a' := ?_) #[true, true, true, true, true, true, true, true, true, true, true, true, true, true, true, true, true, true, true, false, false, false] rfl rfl (by kernel_rfl) (fun _ _ _ h => h) (Or.inr ⟨by rfl, rfl⟩) ?_ ?_
        rotate_left
        · simp only [Act.put, List.setIfInBounds_toArray, List.set_cons_zero, List.set_cons_succ, i64_w, i32_w]
          rfl
        refine pure_ (i := 19) (N := some 45) (v := undef) (a' := ?_) #[true, true, true, true, true, true, true, true, true, true, true, true, true, true, true, true, true, true, true, true, false, false] rfl rfl (by kernel_rfl) (fun _ _ _ h => h) (Or.inr ⟨by rfl, rfl⟩) ?_ ?_
        rotate_left
        · simp only [Act.put, List.setIfInBounds_toArray, List.set_cons_zero, List.set_cons_succ, i64_w, i32_w]
          rfl
        refine pure_ (i := 20) (N := some 46) (v := undef) (a' := ?_) #[true, true, true, true, true, true, true, true, true, true, true, true, true, true, true, true, true, true, true, true, true, false] rfl rfl (by kernel_rfl) (fun _ _ _ h => h) (Or.inr ⟨by rfl, rfl⟩) ?_ ?_
        rotate_left
        · simp only [Act.put, List.setIfInBounds_toArray, List.set_cons_zero, List.set_cons_succ, i64_w, i32_w]
          rfl
        refine pure_ (i := 21) (N := some 47) (v := .bool false) (a' := ?_) #[true, true, true, true, true, true, true, true, true, true, true, true, true, true, true, true, true, true, true, true, true, true] rfl rfl (by kernel_rfl) (fun _ _ _ h => h) (Or.inl ⟨by rfl, ?_⟩) ?_ ?_
        · intro w'
          go_simp
          try (with_reducible rfl)
        rotate_left
        · simp only [Act.put, List.setIfInBounds_toArray, List.set_cons_zero, List.set_cons_succ, i64_w, i32_w]
          rfl
        refine done_ (by kernel_rfl) ?_
        have k0 := (blk_cell BKK.out 0).trans rfl
        have k1 := (blk_cell BKK.out 1).trans rfl
        go_wp2_with (first | (at_mapUpdate; refine wpList_mapUpdate_own _ rfl _ _ _ 50 rfl 52 4 lawK Try.underlying50 _ bm i D rfl HM.out (by have := HI.out; have := HLEN.out; unfold maxLen; omega) _ _ _ rfl rfl HKEY.out _ [] (plainElem_bool Try.underlying4 true) ?_; intro w9 hm9 hg9; have HM9 := Lib.hid hm9; have HO9 := Lib.hid (R_map HO.out HM.out hg9); have HB9 := Lib.hid (HB.out.grown hg9 HB.out.size (fun j hj => by cases hj; exact HBM.out)); clear hm9 hg9 HM HO HB BKK) | fail)
        go_roundg (l0.length - i)
        case measure => have := HI.out; have := HLT.out; omega
        case rel => exact ⟨i + 1, D.put (keyL x.f0 x.f1) (.lit (.bool true)), by (have := HLT.out; have := HLEN.out; rw [wrapR (by omega) (by omega)]; rfl), Lib.hid (by have := HI.out; have := HLT.out; omega), by show Hid (Kd.R _ _ _ _ _ _ _); exact Lib.hid (by rw [HUPD.out]; exact HO9.out), HM9, Lib.hid (map_step l0 HFINE.out HLT.out HXE.out HMO.out), HB9⟩
      | false =>
        cases rb with
        | false =>
          have HUPD : Hid (leanUp l0 (i + 1) = leanUp l0 i) := LX.out false (by unfold leanX; rw [HRB.out]; rfl)
          clear LX
          go_wp2_with fail
          refine start_ (n := 22) (S := fun w' => w'.cell? ⟨gx, 0, none⟩ = some (.int .u32 x.f0) ∧ w'.cell? ⟨gx, 1, none⟩ = some (.int .i64 x.f1) ∧ w'.cell? ⟨gx, 2, none⟩ = some (.int .u32 x.f2) ∧ w'.cell? ⟨gk2, 0, none⟩ = some (.int .u32 x.f0) ∧ w'.cell? ⟨gk2, 1, none⟩ = some (.int .i64 x.f1) ∧ (Instr.lookup 50 (.map (some bm)) (.agg #[.int .u32 x.f0, .int .i64 x.f1]) false).run Try.prog w' = .ok (.bool false) w') (ds := []) #[false, false, false, false, false, false, false, false, false, false, false, false, false, false, false, false, false, false, false, false, false, false] (by kernel_rfl) rfl rfl ⟨(blk_cell BKX.out 0).trans rfl, (blk_cell BKX.out 1).trans rfl, (blk_cell BKX.out 2).trans rfl, (blk_cell BKK.out 0).trans rfl, (blk_cell BKK.out 1).trans rfl, look_bool (HM.out.drew) HKEY.out HSB.out⟩ (fun hHeld => ?_)
          obtain ⟨WD, hWD⟩ : ∃ W, W3.drew = W := ⟨_, rfl⟩
          have hbv : Below W3.heap.size W3 WD := by rw [← hWD]; exact below_drew (Below.refl _ _)
          rw [hWD] at hHeld ⊢
          clear hWD
          have BKX2 : Hid (_ = some _) := (hbv.block _ (blk_lt BKX.out)).trans BKX.out
          have BKK2 : Hid (_ = some _) := (hbv.block _ (blk_lt BKK.out)).trans BKK.out
          have HM2 := Lib.hid (map_below HM.out hbv)
          have HO2 := Lib.hid (Kd.R_below HO.out hbv)
          have HB2 := Lib.hid (HB.out.trans (hbv.mono HB.out.size))
          clear BKX BKK HM HO HB
          have BKX := BKX2
          have BKK := BKK2
          have HM := HM2
          have HO := HO2
          have HB := HB2
          clear BKX2 BKK2 HM2 HO2 HB2 hbv
          refine pure_ (i := 0) (N := some 26) (v := ?_) (a' := ?_) #[true, false, false, false, false, false, false, false, false, false, false, false, false, false, false, false, false, false, false, false, false, false] rfl rfl (by kernel_rfl) (fun _ _ _ h => h) (Or.inl ⟨by rfl, ?_⟩) ?_ ?_
          rotate_left
          · intro w'
            go_simp
            with_reducible rfl
          rotate_left
          · simp only [Act.put, List.setIfInBounds_toArray, List.set_cons_zero, List.set_cons_succ, i64_w, i32_w]
            rfl
          refine take_ (i := 1) (N := some 27) (v := .agg #[.int .u32 x.f0, .int .i64 x.f1]) (a' := ?_) #[true, true, false, false, false, false, false, false, false, false, false, false, false, false, false, false, false, false, false, false, false, false] rfl rfl (by kernel_rfl) (fun _ _ _ h => h) (Or.inl ⟨by rfl, ?_⟩) hHeld ?_ ?_
          · rintro w' ⟨s0, s1, s2, s3, s4, s5⟩
            go_simp
            try (with_reducible rfl)
          rotate_left
          · simp only [Act.put, List.setIfInBounds_toArray, List.set_cons_zero, List.set_cons_succ, i64_w, i32_w]
            rfl
          refine take_ (i := 2) (N := some 28) (v := .bool false) (a' := ?_) #[true, true, true, false, false, false, false, false, false, false, false, false, false, false, false, false, false, false, false, false, false, false] rfl rfl (by kernel_rfl) (fun _ _ _ h => h) (Or.inl ⟨by rfl, ?_⟩) hHeld ?_ ?_
          · rintro w' ⟨s0, s1, s2, s3, s4, s5⟩
            go_simp
            try (with_reducible rfl)
          rotate_left
          · simp only [Act.put, List.setIfInBounds_toArray, List.set_cons_zero, List.set_cons_succ, i64_w, i32_w]
            rfl
          refine pure_ (i := 3) (N := some 29) (v := .bool true) (a' := ?_) #[true, true, true, true, false, false, false, false, false, false, false, false, false, false, false, false, false, false, false, false, false, false] rfl rfl (by kernel_rfl) (fun _ _ _ h => h) (Or.inl ⟨by rfl, ?_⟩) ?_ ?_
          · intro w'
            go_simp
            try (with_reducible rfl)
          rotate_left
          · simp only [Act.put, List.setIfInBounds_toArray, List.set_cons_zero, List.set_cons_succ, i64_w, i32_w]
            rfl
          refine pure_ (i := 4) (N := some 30) (v := .bool true) (a' := ?_) #[true, true, true, true, true, false, false, false, false, false, false, false, false, false, false, false, false, false, false, false, false, false] rfl rfl (by kernel_rfl) (fun _ _ _ h => h) (Or.inl ⟨by rfl, ?_⟩) ?_ ?_
          · intro w'
            go_simp
            try (with_reducible rfl)
          rotate_left
          · simp only [Act.put, List.setIfInBounds_toArray, List.set_cons_zero, List.set_cons_succ, i64_w, i32_w]
            rfl
          refine take_ (i := 5) (N := some 31) (v := .agg #[.int .u32 x.f0, .int .i64 x.f1, .int .u32 x.f2]) (a' := ?_) #[true, true, true, true, true, true, false, false, false, false, false, false, false, false, false, false, false, false, false, false, false, false] rfl rfl (by kernel_rfl) (fun _ _ _ h => h) (Or.inl ⟨by rfl, ?_⟩) hHeld ?_ ?_
          · rintro w' ⟨s0, s1, s2, s3, s4, s5⟩
            go_simp
            try (with_reducible rfl)
          rotate_left
          · simp only [Act.put, List.setIfInBounds_toArray, List.set_cons_zero, List.set_cons_succ, i64_w, i32_w]
            rfl
          refine one_ (i := 6) (N := some 32) #[true, true, true, true, true, true, true, false, false, false, false, false, false, false, false, false, false, false, false, false, false, false] rfl rfl (by kernel_rfl) (by decide) (fun K hK => ?_)
          refine goes_ Try.func12 (by kernel_rfl) rfl #[.agg #[.int .u32 x.f0, .int .i64 x.f1, .int .u32 x.f2]] (by rfl) rfl rfl (by (try simp only [List.map_toArray, List.map_cons, List.map_nil]); rfl) ?_
          refine (HRC.out _).mono ?_
          rintro e W4 ⟨rfl, hbv⟩
          have BKX2 : Hid (_ = some _) := (hbv.block _ (blk_lt BKX.out)).trans BKX.out
          have BKK2 : Hid (_ = some _) := (hbv.block _ (blk_lt BKK.out)).trans BKK.out
          have HM2 := Lib.hid (map_below HM.out hbv)
          have HO2 := Lib.hid (Kd.R_below HO.out hbv)
          have HB2 := Lib.hid (HB.out.trans (hbv.mono HB.out.size))
          clear BKX BKK HM HO HB
          have BKX := BKX2
          have BKK := BKK2
          have HM := HM2
          have HO := HO2
          have HB := HB2
          clear BKX2 BKK2 HM2 HO2 HB2 hbv
          clear hHeld
          refine ⟨_, rfl, ?_⟩
          refine hK.out _ _ ⟨(blk_cell BKX.out 0).trans rfl, (blk_cell BKX.out 1).trans rfl, (blk_cell BKX.out 2).trans rfl, (blk_cell BKK.out 0).trans rfl, (blk_cell BKK.out 1).trans rfl, look_bool (HM.out) HKEY.out HSB.out⟩ (fun hHeld => ?_)
          clear hK K
          try (refine norm_ (a' := ?_) ?_ ?_; rotate_left; focus (simp only [Act.put, List.setIfInBounds_toArray, List.set_cons_zero, List.set_cons_succ, i64_w, i32_w]; rfl))
          refine pure_ (i := 7) (N := some 33) (v := .bool false) (a' := ?_) #[true, true, true, true, true, true, true, true, false, false, false, false, false, false, false, false, false, false, false, false, false, false] rfl rfl (by kernel_rfl) (fun _ _ _ h => h) (Or.inl ⟨by rfl, ?_⟩) ?_ ?_
          · intro w'
            go_simp
            try (with_reducible rfl)
          rotate_left
          · simp only [Act.put, List.setIfInBounds_toArray, List.set_cons_zero, List.set_cons_succ, i64_w, i32_w]
            rfl
          refine pure_ (i := 8) (N := some 34) (v := .bool false) (a' := ?_) #[true, true, true, true, true, true, true, true, true, false, false, false, false, false, false, false, false, false, false, false, false, false] rfl rfl (by kernel_rfl) (fun _ _ _ h => h) (Or.inl ⟨by rfl, ?_⟩) ?_ ?_
          · intro w'
            go_simp
            try (with_reducible rfl)
          rotate_left
          · simp only [Act.put, List.setIfInBounds_toArray, List.set_cons_zero, List.set_cons_succ, i64_w, i32_w]
            rfl
          refine pure_ (i := 9) (N := some 35) (v := undef) (a' := ?_) #[true, true, true, true, true, true, true, true, true, true, false, false, false, false, false, false, false, false, false, false, false, false] rfl rfl (by kernel_rfl) (fun _ _ _ h => h) (Or.inr ⟨by rfl, rfl⟩) ?_ ?_
          rotate_left
          · simp only [Act.put, List.setIfInBounds_toArray, List.set_cons_zero, List.set_cons_succ, i64_w, i32_w]
            rfl
          refine pure_ (i := 10) (N := some 36) (v := undef) (a' := ?_) #[true, true, true, true, true, true, true, true, true, true, true, false, false, false, false, false, false, false, false, false, false, false] rfl rfl (by kernel_rfl) (fun _ _ _ h => h) (Or.inr ⟨by rfl, rfl⟩) ?_ ?_
          rotate_left
          · simp only [Act.put, List.setIfInBounds_toArray, List.set_cons_zero, List.set_cons_succ, i64_w, i32_w]
            rfl
          refine pure_ (i := 11) (N := some 37) (v := undef) (a' := ?_) #[true, true, true, true, true, true, true, true, true, true, true, true, false, false, false, false, false, false, false, false, false, false] rfl rfl (by kernel_rfl) (fun _ _ _ h => h) (Or.inr ⟨by rfl, rfl⟩) ?_ ?_
          rotate_left
          · simp only [Act.put, List.setIfInBounds_toArray, List.set_cons_zero, List.set_cons_succ, i64_w, i32_w]
            rfl
          refine pure_ (i := 12) (N := some 38) (v := undef) (a' := ?_) #[true, true, true, true, true, true, true, true, true, true, true, true, true, false, false, false, false, false, false, false, false, false] rfl rfl (by kernel_rfl) (fun _ _ _ h => h) (Or.inr ⟨by rfl, rfl⟩) ?_ ?_
          rotate_left
          · simp only [Act.put, List.setIfInBounds_toArray, List.set_cons_zero, List.set_cons_succ, i64_w, i32_w]
            rfl
          refine pure_ (i := 13) (N := some 39) (v := undef) (a' := ?_) #[true, true, true, true, true, true, true, true, true, true, true, true, true, true, false, false, false, false, false, false, false, false] rfl rfl (by kernel_rfl) (fun _ _ _ h => h) (Or.inr ⟨by rfl, rfl⟩) ?_ ?_
          rotate_left
          · simp only [Act.put, List.setIfInBounds_toArray, List.set_cons_zero, List.set_cons_succ, i64_w, i32_w]
            rfl
          refine pure_ (i := 14) (N := some 40) (v := undef) (a' := ?_) #[true, true, true, true, true, true, true, true, true, true, true, true, true, true, true, false, false, false, false, false, false, false] rfl rfl (by kernel_rfl) (fun _ _ _ h => h) (Or.inr ⟨by rfl, rfl⟩) ?_ ?_
          rotate_left
          · simp only [Act.put, List.setIfInBounds_toArray, List.set_cons_zero, List.set_cons_succ, i64_w, i32_w]
            rfl
          refine pure_ (i := 15) (N := some 41) (v := undef) (a' := ?_) #[true, true, true, true, true, true, true, true, true, true, true, true, true, true, true, true, false, false, false, false, false, false] rfl rfl (by kernel_rfl) (fun _ _ _ h => h) (Or.inr ⟨by rfl, rfl⟩) ?_ ?_
          rotate_left
          · simp only [Act.put, List.setIfInBounds_toArray, List.set_cons_zero, List.set_cons_succ, i64_w, i32_w]
            rfl
          refine pure_ (i := 16) (N := some 42) (v := undef) (a' := ?_) #[true, true, true, true, true, true, true, true, true, true, true, true, true, true, true, true, true, false, false, false, false, false] rfl rfl (by kernel_rfl) (fun _ _ _ h => h) (Or.inr ⟨by rfl, rfl⟩) ?_ ?_
          rotate_left
          · simp only [Act.put, List.setIfInBounds_toArray, List.set_cons_zero, List.set_cons_succ, i64_w, i32_w]
            rfl
          refine pure_ (i := 17) (N := some 43) (v := undef) (a' := ?_) #[true, true, true, true, true, true, true, true, true, true, true, true, true, true, true, true, true, true, false, false, false, false] rfl rfl (by kernel_rfl) (fun _ _ _ h => h) (Or.inr ⟨by rfl, rfl⟩) ?_ ?_
          rotate_left
          · simp only [Act.put, List.setIfInBounds_toArray, List.set_cons_zero, List.set_cons_succ, i64_w, i32_w]
            rfl
          refine pure_ (i := 18) (N := some 44) (v := undef) (a' := ?_) #[true, true, true, true, true, true, true, true, true, true, true, true, true, true, true, true, true, true, true, false, false, false] rfl rfl (by kernel_rfl) (fun _ _ _ h => h) (Or.inr ⟨by rfl, rfl⟩) ?_ ?_
          rotate_left
          · simp only [Act.put, List.setIfInBounds_toArray, List.set_cons_zero, List.set_cons_succ, i64_w, i32_w]
            rfl
          refine pure_ (i := 19) (N := some 45) (v := undef) (a' := ?_) #[true, true, true, true, true, true, true, true, true, true, true, true, true, true, true, true, true, true, true, true, false, false] rfl rfl (by kernel_rfl) (fun _ _ _ h => h) (Or.inr ⟨by rfl, rfl⟩) ?_ ?_
          rotate_left
          · simp only [Act.put, List.setIfInBounds_toArray, List.set_cons_zero, List.set_cons_succ, i64_w, i32_w]
            rfl
          refine pure_ (i := 20) (N := some 46) (v := undef) (a' := ?_) #[true, true, true, true, true, true, true, true, true, true, true, true, true, true, true, true, true, true, true, true, true, false] rfl rfl (by kernel_rfl) (fun _ _ _ h => h) (Or.inr ⟨by rfl, rfl⟩) ?_ ?_
          rotate_left
          · simp only [Act.put, List.setIfInBounds_toArray, List.set_cons_zero, List.set_cons_succ, i64_w, i32_w]
            rfl
          refine pure_ (i := 21) (N := some 47) (v := .bool false) (a' := ?_) #[true, true, true, true, true, true, true, true, true, true, true, true, true, true, true, true, true, true, true, true, true, true] rfl rfl (by kernel_rfl) (fun _ _ _ h => h) (Or.inl ⟨by rfl, ?_⟩) ?_ ?_
          · intro w'
            go_simp
            try (with_reducible rfl)
          rotate_left
          · simp only [Act.put, List.setIfInBounds_toArray, List.set_cons_zero, List.set_cons_succ, i64_w, i32_w]
            rfl
          refine done_ (by kernel_rfl) ?_
          have k0 := (blk_cell BKK.out 0).trans rfl
          have k1 := (blk_cell BKK.out 1).trans rfl
          go_wp2_with (first | (at_mapUpdate; refine wpList_mapUpdate_own _ rfl _ _ _ 50 rfl 52 4 lawK Try.underlying50 _ bm i D rfl HM.out (by have := HI.out; have := HLEN.out; unfold maxLen; omega) _ _ _ rfl rfl HKEY.out _ [] (plainElem_bool Try.underlying4 true) ?_; intro w9 hm9 hg9; have HM9 := Lib.hid hm9; have HO9 := Lib.hid (R_map HO.out HM.out hg9); have HB9 := Lib.hid (HB.out.grown hg9 HB.out.size (fun j hj => by cases hj; exact HBM.out)); clear hm9 hg9 HM HO HB BKK) | fail)
          go_roundg (l0.length - i)
          case measure => have := HI.out; have := HLT.out; omega
          case rel => exact ⟨i + 1, D.put (keyL x.f0 x.f1) (.lit (.bool true)), by (have := HLT.out; have := HLEN.out; rw [wrapR (by omega) (by omega)]; rfl), Lib.hid (by have := HI.out; have := HLT.out; omega), by show Hid (Kd.R _ _ _ _ _ _ _); exact Lib.hid (by rw [HUPD.out]; exact HO9.out), HM9, Lib.hid (map_step l0 HFINE.out HLT.out HXE.out HMO.out), HB9⟩
        | true =>
          by_cases hu : up = -1
          · subst hu
            have HUPD : Hid (leanUp l0 (i + 1) = leanUp l0 i ++ [x]) := LX.out true (by unfold leanX; rw [HRB.out, HUP.out]; rfl)
            clear LX
            go_wp2_with fail
            refine start_ (n := 22) (S := fun w' => w'.cell? ⟨gx, 0, none⟩ = some (.int .u32 x.f0) ∧ w'.cell? ⟨gx, 1, none⟩ = some (.int .i64 x.f1) ∧ w'.cell? ⟨gx, 2, none⟩ = some (.int .u32 x.f2) ∧ w'.cell? ⟨gk2, 0, none⟩ = some (.int .u32 x.f0) ∧ w'.cell? ⟨gk2, 1, none⟩ = some (.int .i64 x.f1) ∧ (Instr.lookup 50 (.map (some bm)) (.agg #[.int .u32 x.f0, .int .i64 x.f1]) false).run Try.prog w' = .ok (.bool false) w') (ds := []) #[false, false, false, false, false, false, false, false, false, false, false, false, false, false, false, false, false, false, false, false, false, false] (by kernel_rfl) rfl rfl ⟨(blk_cell BKX.out 0).trans rfl, (blk_cell BKX.out 1).trans rfl, (blk_cell BKX.out 2).trans rfl, (blk_cell BKK.out 0).trans rfl, (blk_cell BKK.out 1).trans rfl, look_bool (HM.out.drew) HKEY.out HSB.out⟩ (fun hHeld => ?_)
            obtain ⟨WD, hWD⟩ : ∃ W, W3.drew = W := ⟨_, rfl⟩
            have hbv : Below W3.heap.size W3 WD := by rw [← hWD]; exact below_drew (Below.refl _ _)
            rw [hWD] at hHeld ⊢
            clear hWD
            have BKX2 : Hid (_ = some _) := (hbv.block _ (blk_lt BKX.out)).trans BKX.out
            have BKK2 : Hid (_ = some _) := (hbv.block _ (blk_lt BKK.out)).trans BKK.out
            have HM2 := Lib.hid (map_below HM.out hbv)
            have HO2 := Lib.hid (Kd.R_below HO.out hbv)
            have HB2 := Lib.hid (HB.out.trans (hbv.mono HB.out.size))
            clear BKX BKK HM HO HB
            have BKX := BKX2
            have BKK := BKK2
            have HM := HM2
            have HO := HO2
            have HB := HB2
            clear BKX2 BKK2 HM2 HO2 HB2 hbv
            refine pure_ (i := 0) (N := some 26) (v := ?_) (a' := ?_) #[true, false, false, false, false, false, false, false, false, false, false, false, false, false, false, false, false, false, false, false, false, false] rfl rfl (by kernel_rfl) (fun _ _ _ h => h) (Or.inl ⟨by rfl, ?_⟩) ?_ ?_
            rotate_left
            · intro w'
              go_simp
              with_reducible rfl
            rotate_left
            · simp only [Act.put, List.setIfInBounds_toArray, List.set_cons_zero, List.set_cons_succ, i64_w, i32_w]
              rfl
            refine take_ (i := 1) (N := some 27) (v := .agg #[.int .u32 x.f0, .int .i64 x.f1]) (a' := ?_) #[true, true, false, false, false, false, false, false, false, false, false, false, false, false, false, false, false, false, false, false, false, false] rfl rfl (by kernel_rfl) (fun _ _ _ h => h) (Or.inl ⟨by rfl, ?_⟩) hHeld ?_ ?_
            · rintro w' ⟨s0, s1, s2, s3, s4, s5⟩
              go_simp
              try (with_reducible rfl)
            rotate_left
            · simp only [Act.put, List.setIfInBounds_toArray, List.set_cons_zero, List.set_cons_succ, i64_w, i32_w]
              rfl
            refine take_ (i := 2) (N := some 28) (v := .bool false) (a' := ?_) #[true, true, true, false, false, false, false, false, false, false, false, false, false, false, false, false, false, false, false, false, false, false] rfl rfl (by kernel_rfl) (fun _ _ _ h => h) (Or.inl ⟨by rfl, ?_⟩) hHeld ?_ ?_
            · rintro w' ⟨s0, s1, s2, s3, s4, s5⟩
              go_simp
              try (with_reducible rfl)
            rotate_left
            · simp only [Act.put, List.setIfInBounds_toArray, List.set_cons_zero, List.set_cons_succ, i64_w, i32_w]
              rfl
            refine pure_ (i := 3) (N := some 29) (v := .bool true) (a' := ?_) #[true, true, true, true, false, false, false, false, false, false, false, false, false, false, false, false, false, false, false, false, false, false] rfl rfl (by kernel_rfl) (fun _ _ _ h => h) (Or.inl ⟨by rfl, ?_⟩) ?_ ?_
            · intro w'
              go_simp
              try (with_reducible rfl)
            rotate_left
            · simp only [Act.put, List.setIfInBounds_toArray, List.set_cons_zero, List.set_cons_succ, i64_w, i32_w]
              rfl
            refine pure_ (i := 4) (N := some 30) (v := .bool true) (a' := ?_) #[true, true, true, true, true, false, false, false, false, false, false, false, false, false, false, false, false, false, false, false, false, false] rfl rfl (by kernel_rfl) (fun _ _ _ h => h) (Or.inl ⟨by rfl, ?_⟩) ?_ ?_
            · intro w'
              go_simp
              try (with_reducible rfl)
            rotate_left
            · simp only [Act.put, List.setIfInBounds_toArray, List.set_cons_zero, List.set_cons_succ, i64_w, i32_w]
              rfl
            refine take_ (i := 5) (N := some 31) (v := .agg #[.int .u32 x.f0, .int .i64 x.f1, .int .u32 x.f2]) (a' := ?_) #[true, true, true, true, true, true, false, false, false, false, false, false, false, false, false, false, false, false, false, false, false, false] rfl rfl (by kernel_rfl) (fun _ _ _ h => h) (Or.inl ⟨by rfl, ?_⟩) hHeld ?_ ?_
            · rintro w' ⟨s0, s1, s2, s3, s4, s5⟩
              go_simp
              try (with_reducible rfl)
            rotate_left
            · simp only [Act.put, List.setIfInBounds_toArray, List.set_cons_zero, List.set_cons_succ, i64_w, i32_w]
              rfl
            refine one_ (i := 6) (N := some 32) #[true, true, true, true, true, true, true, false, false, false, false, false, false, false, false, false, false, false, false, false, false, false] rfl rfl (by kernel_rfl) (by decide) (fun K hK => ?_)
            refine goes_ Try.func12 (by kernel_rfl) rfl #[.agg #[.int .u32 x.f0, .int .i64 x.f1, .int .u32 x.f2]] (by rfl) rfl rfl (by (try simp only [List.map_toArray, List.map_cons, List.map_nil]); rfl) ?_
            refine (HRC.out _).mono ?_
            rintro e W4 ⟨rfl, hbv⟩
            have BKX2 : Hid (_ = some _) := (hbv.block _ (blk_lt BKX.out)).trans BKX.out
            have BKK2 : Hid (_ = some _) := (hbv.block _ (blk_lt BKK.out)).trans BKK.out
            have HM2 := Lib.hid (map_below HM.out hbv)
            have HO2 := Lib.hid (Kd.R_below HO.out hbv)
            have HB2 := Lib.hid (HB.out.trans (hbv.mono HB.out.size))
            clear BKX BKK HM HO HB
            have BKX := BKX2
            have BKK := BKK2
            have HM := HM2
            have HO := HO2
            have HB := HB2
            clear BKX2 BKK2 HM2 HO2 HB2 hbv
            clear hHeld
            refine ⟨_, rfl, ?_⟩
            refine hK.out _ _ ⟨(blk_cell BKX.out 0).trans rfl, (blk_cell BKX.out 1).trans rfl, (blk_cell BKX.out 2).trans rfl, (blk_cell BKK.out 0).trans rfl, (blk_cell BKK.out 1).trans rfl, look_bool (HM.out) HKEY.out HSB.out⟩ (fun hHeld => ?_)
            clear hK K
            try (refine norm_ (a' := ?_) ?_ ?_; rotate_left; focus (simp only [Act.put, List.setIfInBounds_toArray, List.set_cons_zero, List.set_cons_succ, i64_w, i32_w]; rfl))
            refine pure_ (i := 7) (N := some 33) (v := .bool true) (a' := ?_) #[true, true, true, true, true, true, true, true, false, false, false, false, false, false, false, false, false, false, false, false, false, false] rfl rfl (by kernel_rfl) (fun _ _ _ h => h) (Or.inl ⟨by rfl, ?_⟩) ?_ ?_
            · intro w'
              go_simp
              try (with_reducible rfl)
            rotate_left
            · simp only [Act.put, List.setIfInBounds_toArray, List.set_cons_zero, List.set_cons_succ, i64_w, i32_w]
              rfl
            refine pure_ (i := 8) (N := some 34) (v := .bool true) (a' := ?_) #[true, true, true, true, true, true, true, true, true, false, false, false, false, false, false, false, false, false, false, false, false, false] rfl rfl (by kernel_rfl) (fun _ _ _ h => h) (Or.inl ⟨by rfl, ?_⟩) ?_ ?_
            · intro w'
              go_simp
              try (with_reducible rfl)
            rotate_left
            · simp only [Act.put, List.setIfInBounds_toArray, List.set_cons_zero, List.set_cons_succ, i64_w, i32_w]
              rfl
            refine pure_ (i := 9) (N := some 35) (v := .int .i64 (-1)) (a' := ?_) #[true, true, true, true, true, true, true, true, true, true, false, false, false, false, false, false, false, false, false, false, false, false] rfl rfl (by kernel_rfl) (fun _ _ _ h => h) (Or.inl ⟨by rfl, ?_⟩) ?_ ?_
            · intro w'
              go_simp
              try (with_reducible rfl)
            rotate_left
            · simp only [Act.put, List.setIfInBounds_toArray, List.set_cons_zero, List.set_cons_succ, i64_w, i32_w]
              rfl
            refine pure_ (i := 10) (N := some 36) (v := .bool true) (a' := ?_) #[true, true, true, true, true, true, true, true, true, true, true, false, false, false, false, false, false, false, false, false, false, false] rfl rfl (by kernel_rfl) (fun _ _ _ h => h) (Or.inl ⟨by rfl, ?_⟩) ?_ ?_
            · intro w'
              go_simp
              try (with_reducible rfl)
            rotate_left
            · simp only [Act.put, List.setIfInBounds_toArray, List.set_cons_zero, List.set_cons_succ, i64_w, i32_w]
              rfl
            refine pure_ (i := 11) (N := some 37) (v := .bool true) (a' := ?_) #[true, true, true, true, true, true, true, true, true, true, true, true, false, false, false, false, false, false, false, false, false, false] rfl rfl (by kernel_rfl) (fun _ _ _ h => h) (Or.inl ⟨by rfl, ?_⟩) ?_ ?_
            · intro w'
              go_simp
              try (with_reducible rfl)
            rotate_left
            · simp only [Act.put, List.setIfInBounds_toArray, List.set_cons_zero, List.set_cons_succ, i64_w, i32_w]
              rfl
            refine pure_ (i := 12) (N := some 38) (v := undef) (a' := ?_) #[true, true, true, true, true, true, true, true, true, true, true, true, true, false, false, false, false, false, false, false, false, false] rfl rfl (by kernel_rfl) (fun _ _ _ h => h) (Or.inr ⟨by rfl, rfl⟩) ?_ ?_
            rotate_left
            · simp only [Act.put, List.setIfInBounds_toArray, List.set_cons_zero, List.set_cons_succ, i64_w, i32_w]
              rfl
            refine pure_ (i := 13) (N := some 39) (v := undef) (a' := ?_) #[true, true, true, true, true, true, true, true, true, true, true, true, true, true, false, false, false, false, false, false, false, false] rfl rfl (by kernel_rfl) (fun _ _ _ h => h) (Or.inr ⟨by rfl, rfl⟩) ?_ ?_
            rotate_left
            · simp only [Act.put, List.setIfInBounds_toArray, List.set_cons_zero, List.set_cons_succ, i64_w, i32_w]
              rfl
            refine pure_ (i := 14) (N := some 40) (v := undef) (a' := ?_) #[true, true, true, true, true, true, true, true, true, true, true, true, true, true, true, false, false, false, false, false, false, false] rfl rfl (by kernel_rfl) (fun _ _ _ h => h) (Or.inr ⟨by rfl, rfl⟩) ?_ ?_
            rotate_left
            · simp only [Act.put, List.setIfInBounds_toArray, List.set_cons_zero, List.set_cons_succ, i64_w, i32_w]
              rfl
            refine pure_ (i := 15) (N := some 41) (v := undef) (a' := ?_) #[true, true, true, true, true, true, true, true, true, true, true, true, true, true, true, true, false, false, false, false, false, false] rfl rfl (by kernel_rfl) (fun _ _ _ h => h) (Or.inr ⟨by rfl, rfl⟩) ?_ ?_
            rotate_left
            · simp only [Act.put, List.setIfInBounds_toArray, List.set_cons_zero, List.set_cons_succ, i64_w, i32_w]
              rfl
            refine pure_ (i := 16) (N := some 42) (v := undef) (a' := ?_) #[true, true, true, true, true, true, true, true, true, true, true, true, true, true, true, true, true, false, false, false, false, false] rfl rfl (by kernel_rfl) (fun _ _ _ h => h) (Or.inr ⟨by rfl, rfl⟩) ?_ ?_
            rotate_left
            · simp only [Act.put, List.setIfInBounds_toArray, List.set_cons_zero, List.set_cons_succ, i64_w, i32_w]
              rfl
            refine pure_ (i := 17) (N := some 43) (v := undef) (a' := ?_) #[true, true, true, true, true, true, true, true, true, true, true, true, true, true, true, true, true, true, false, false, false, false] rfl rfl (by kernel_rfl) (fun _ _ _ h => h) (Or.inr ⟨by rfl, rfl⟩) ?_ ?_
            rotate_left
            · simp only [Act.put, List.setIfInBounds_toArray, List.set_cons_zero, List.set_cons_succ, i64_w, i32_w]
              rfl
            refine pure_ (i := 18) (N := some 44) (v := undef) (a' := ?_) #[true, true, true, true, true, true, true, true, true, true, true, true, true, true, true, true, true, true, true, false, false, false] rfl rfl (by kernel_rfl) (fun _ _ _ h => h) (Or.inr ⟨by rfl, rfl⟩) ?_ ?_
            rotate_left
            · simp only [Act.put, List.setIfInBounds_toArray, List.set_cons_zero, List.set_cons_succ, i64_w, i32_w]
              rfl
            refine pure_ (i := 19) (N := some 45) (v := undef) (a' := ?_) #[true, true, true, true, true, true, true, true, true, true, true, true, true, true, true, true, true, true, true, true, false, false] rfl rfl (by kernel_rfl) (fun _ _ _ h => h) (Or.inr ⟨by rfl, rfl⟩) ?_ ?_
            rotate_left
            · simp only [Act.put, List.setIfInBounds_toArray, List.set_cons_zero, List.set_cons_succ, i64_w, i32_w]
              rfl
            refine pure_ (i := 20) (N := some 46) (v := .bool true) (a' := ?_) #[true, true, true, true, true, true, true, true, true, true, true, true, true, true, true, true, true, true, true, true, true, false] rfl rfl (by kernel_rfl) (fun _ _ _ h => h) (Or.inl ⟨by rfl, ?_⟩) ?_ ?_
            · intro w'
              go_simp
              try (with_reducible rfl)
            rotate_left
            · simp only [Act.put, List.setIfInBounds_toArray, List.set_cons_zero, List.set_cons_succ, i64_w, i32_w]
              rfl
            refine pure_ (i := 21) (N := some 47) (v := .bool true) (a' := ?_) #[true, true, true, true, true, true, true, true, true, true, true, true, true, true, true, true, true, true, true, true, true, true] rfl rfl (by kernel_rfl) (fun _ _ _ h => h) (Or.inl ⟨by rfl, ?_⟩) ?_ ?_
            · intro w'
              go_simp
              try (with_reducible rfl)
            rotate_left
            · simp only [Act.put, List.setIfInBounds_toArray, List.set_cons_zero, List.set_cons_succ, i64_w, i32_w]
              rfl
            refine done_ (by kernel_rfl) ?_
            have k0 := (blk_cell BKK.out 0).trans rfl
            have k1 := (blk_cell BKK.out 1).trans rfl
            have x0 := (blk_cell BKX.out 0).trans rfl
            have x1 := (blk_cell BKX.out 1).trans rfl
            have x2 := (blk_cell BKX.out 2).trans rfl
            go_wp2_with (first | (at_builtin; refine Kd.R_append k32 (w0 := w) w.heap.size rfl (.tmp 48) (.tmp 50) 22 32 (.agg #[.int .u32 0, .int .i64 0, .int .u32 0]) 24 rfl Try.underlying22 rinfoL rfl (by decide) (by decide) u4 (leanUp l0 i) x [.int .u32 x.f0, .int .i64 x.f1, .int .u32 x.f2] (fun _ => True) (fun _ => False) rfl rfl ?aP ?aK ?aF ?aO ?aB ?aS ?aL ?_; (case aP => exact k32_mkM _ _ _ x); (case aK => exact fun _ h => h.elim); (case aF => exact fun _ _ => trivial); (case aO => exact HO.out); (case aB => exact HB.out); (case aS => exact HB.out.size); (case aL => have h1 := leanUp_len l0 i; have h2 := HLT.out; have h3 := HLEN.out; omega); intro v5 w5 ho hb hg5 hat; have HM5 := Lib.hid (HM.out.kept hg5 (R_mapne HO.out HM.out)); have BK5 := Lib.hid (blk_grown BKK.out hg5 (Kd.R_ne HO.out BKK.out (by decide))); have HO5 := Lib.hid ho; have HB5 := Lib.hid hb; clear HM HO HB BKK BKX k0 k1 x0 x1 x2 ho hb hg5 hat; have HM := HM5; have HO := HO5; have HB := HB5; have BKK := BK5; clear HM5 HO5 HB5 BK5; have k0 := (blk_cell BKK.out 0).trans rfl; have k1 := (blk_cell BKK.out 1).trans rfl) | (at_mapUpdate; refine wpList_mapUpdate_own _ rfl _ _ _ 50 rfl 52 4 lawK Try.underlying50 _ bm i D rfl HM.out (by have := HI.out; have := HLEN.out; unfold maxLen; omega) _ _ _ rfl rfl HKEY.out _ [] (plainElem_bool Try.underlying4 true) ?_; intro w9 hm9 hg9; have HM9 := Lib.hid hm9; have HO9 := Lib.hid (R_map HO.out HM.out hg9); have HB9 := Lib.hid (HB.out.grown hg9 HB.out.size (fun j hj => by cases hj; exact HBM.out)); clear hm9 hg9 HM HO HB BKK) | fail)
            go_roundg (l0.length - i)
            case measure => have := HI.out; have := HLT.out; omega
            case rel => exact ⟨i + 1, D.put (keyL x.f0 x.f1) (.lit (.bool true)), by (have := HLT.out; have := HLEN.out; rw [wrapR (by omega) (by omega)]; rfl), Lib.hid (by have := HI.out; have := HLT.out; omega), by show Hid (Kd.R _ _ _ _ _ _ _); exact Lib.hid (by rw [HUPD.out]; exact HO9.out), HM9, Lib.hid (map_step l0 HFINE.out HLT.out HXE.out HMO.out), HB9⟩
          · obtain ⟨n, rfl⟩ : ∃ n : Nat, up = n := Int.eq_ofNat_of_zero_le (by have := HUR.out; omega)
            have hn : n < l0.length := by have := HUR.out; omega
            obtain ⟨ad2, ea2, u0, u1, u2⟩ := at_T32 HR0.out (n : Int) (by omega) (by omega)
            cases ea2
            rw [rd_rt l0 hn, Int.toNat_natCast] at u2
            obtain ⟨uf2, huf⟩ : ∃ u, l0[n].f2 = u := ⟨_, rfl⟩
            rw [huf] at u2
            have HU2 := Lib.hid u2
            have hgn : (l0.getD n d0).f2 = uf2 := by rw [getD_at l0 hn]; exact huf
            have HUPD : Hid (∀ q, (uf2 != x.f2) = q → leanUp l0 (i + 1) = if q = true then leanUp l0 i ++ [x] else leanUp l0 i) := by
              intro q hq
              refine LX.out q ?_
              unfold leanX
              rw [HRB.out, HUP.out, Int.toNat_natCast, hgn, hq, show ((n : Int) == -1) = false from beq_eq_false_iff_ne.2 hu]
              simp
            have q0 : ((n : Int) == -1) = false := beq_eq_false_iff_ne.2 hu
            have q1 : (0 ≤ (n : Int)) = True := eq_true (by omega)
            have q2 : ((n : Int) < (l0.length : Int)) = True := eq_true (by omega)
            have q3 : (n < l0.length) = True := eq_true hn
            clear LX u0 u1 u2 huf hgn hn hu
            go_wp2_with fail
            refine start_ (n := 22) (S := fun w' => w'.cell? ⟨gx, 0, none⟩ = some (.int .u32 x.f0) ∧ w'.cell? ⟨gx, 1, none⟩ = some (.int .i64 x.f1) ∧ w'.cell? ⟨gx, 2, none⟩ = some (.int .u32 x.f2) ∧ w'.cell? ⟨gk2, 0, none⟩ = some (.int .u32 x.f0) ∧ w'.cell? ⟨gk2, 1, none⟩ = some (.int .i64 x.f1) ∧ (Instr.lookup 50 (.map (some bm)) (.agg #[.int .u32 x.f0, .int .i64 x.f1]) false).run Try.prog w' = .ok (.bool false) w' ∧ w'.cell? ⟨(ad.add (n * 3)).block, (ad.add (n * 3)).off + 2, none⟩ = some (.int .u32 uf2)) (ds := []) #[false, false, false, false, false, false, false, false, false, false, false, false, false, false, false, false, false, false, false, false, false, false] (by kernel_rfl) rfl rfl ⟨(blk_cell BKX.out 0).trans rfl, (blk_cell BKX.out 1).trans rfl, (blk_cell BKX.out 2).trans rfl, (blk_cell BKK.out 0).trans rfl, (blk_cell BKK.out 1).trans rfl, look_bool (HM.out.drew) HKEY.out HSB.out, cell_below (below_drew HB.out) HU2.out⟩ (fun hHeld => ?_)
            obtain ⟨WD, hWD⟩ : ∃ W, W3.drew = W := ⟨_, rfl⟩
            have hbv : Below W3.heap.size W3 WD := by rw [← hWD]; exact below_drew (Below.refl _ _)
            rw [hWD] at hHeld ⊢
            clear hWD
            have BKX2 : Hid (_ = some _) := (hbv.block _ (blk_lt BKX.out)).trans BKX.out
            have BKK2 : Hid (_ = some _) := (hbv.block _ (blk_lt BKK.out)).trans BKK.out
            have HM2 := Lib.hid (map_below HM.out hbv)
            have HO2 := Lib.hid (Kd.R_below HO.out hbv)
            have HB2 := Lib.hid (HB.out.trans (hbv.mono HB.out.size))
            clear BKX BKK HM HO HB
            have BKX := BKX2
            have BKK := BKK2
            have HM := HM2
            have HO := HO2
            have HB := HB2
            clear BKX2 BKK2 HM2 HO2 HB2 hbv
            refine pure_ (i := 0) (N := some 26) (v := ?_) (a' := ?_) #[true, false, false, false, false, false, false, false, false, false, false, false, false, false, false, false, false, false, false, false, false, false] rfl rfl (by kernel_rfl) (fun _ _ _ h => h) (Or.inl ⟨by rfl, ?_⟩) ?_ ?_
            rotate_left
            · intro w'
              go_simp
              with_reducible rfl
            rotate_left
            · simp only [Act.put, List.setIfInBounds_toArray, List.set_cons_zero, List.set_cons_succ, i64_w, i32_w]
              rfl
            refine take_ (i := 1) (N := some 27) (v := .agg #[.int .u32 x.f0, .int .i64 x.f1]) (a' := ?_) #[true, true, false, false, false, false, false, false, false, false, false, false, false, false, false, false, false, false, false, false, false, false] rfl rfl (by kernel_rfl) (fun _ _ _ h => h) (Or.inl ⟨by rfl, ?_⟩) hHeld ?_ ?_
            · rintro w' ⟨s0, s1, s2, s3, s4, s5, s6⟩
              go_simp
              try (with_reducible rfl)
            rotate_left
            · simp only [Act.put, List.setIfInBounds_toArray, List.set_cons_zero, List.set_cons_succ, i64_w, i32_w]
              rfl
            refine take_ (i := 2) (N := some 28) (v := .bool false) (a' := ?_) #[true, true, true, false, false, false, false, false, false, false, false, false, false, false, false, false, false, false, false, false, false, false] rfl rfl (by kernel_rfl) (fun _ _ _ h => h) (Or.inl ⟨by rfl, ?_⟩) hHeld ?_ ?_
            · rintro w' ⟨s0, s1, s2, s3, s4, s5, s6⟩
              go_simp
              try (with_reducible rfl)
            rotate_left
            · simp only [Act.put, List.setIfInBounds_toArray, List.set_cons_zero, List.set_cons_succ, i64_w, i32_w]
              rfl
            refine pure_ (i := 3) (N := some 29) (v := .bool true) (a' := ?_) #[true, true, true, true, false, false, false, false, false, false, false, false, false, false, false, false, false, false, false, false, false, false] rfl rfl (by kernel_rfl) (fun _ _ _ h => h) (Or.inl ⟨by rfl, ?_⟩) ?_ ?_
            · intro w'
              go_simp
              try (with_reducible rfl)
            rotate_left
            · simp only [Act.put, List.setIfInBounds_toArray, List.set_cons_zero, List.set_cons_succ, i64_w, i32_w]
              rfl
            refine pure_ (i := 4) (N := some 30) (v := .bool true) (a' := ?_) #[true, true, true, true, true, false, false, false, false, false, false, false, false, false, false, false, false, false, false, false, false, false] rfl rfl (by kernel_rfl) (fun _ _ _ h => h) (Or.inl ⟨by rfl, ?_⟩) ?_ ?_
            · intro w'
              go_simp
              try (with_reducible rfl)
            rotate_left
            · simp only [Act.put, List.setIfInBounds_toArray, List.set_cons_zero, List.set_cons_succ, i64_w, i32_w]
              rfl
            refine take_ (i := 5) (N := some 31) (v := .agg #[.int .u32 x.f0, .int .i64 x.f1, .int .u32 x.f2]) (a' := ?_) #[true, true, true, true, true, true, false, false, false, false, false, false, false, false, false, false, false, false, false, false, false, false] rfl rfl (by kernel_rfl) (fun _ _ _ h => h) (Or.inl ⟨by rfl, ?_⟩) hHeld ?_ ?_
            · rintro w' ⟨s0, s1, s2, s3, s4, s5, s6⟩
              go_simp
              try (with_reducible rfl)
            rotate_left
            · simp only [Act.put, List.setIfInBounds_toArray, List.set_cons_zero, List.set_cons_succ, i64_w, i32_w]
              rfl
            refine one_ (i := 6) (N := some 32) #[true, true, true, true, true, true, true, false, false, false, false, false, false, false, false, false, false, false, false, false, false, false] rfl rfl (by kernel_rfl) (by decide) (fun K hK => ?_)
            refine goes_ Try.func12 (by kernel_rfl) rfl #[.agg #[.int .u32 x.f0, .int .i64 x.f1, .int .u32 x.f2]] (by rfl) rfl rfl (by (try simp only [List.map_toArray, List.map_cons, List.map_nil]); rfl) ?_
            refine (HRC.out _).mono ?_
            rintro e W4 ⟨rfl, hbv⟩
            have BKX2 : Hid (_ = some _) := (hbv.block _ (blk_lt BKX.out)).trans BKX.out
            have BKK2 : Hid (_ = some _) := (hbv.block _ (blk_lt BKK.out)).trans BKK.out
            have HM2 := Lib.hid (map_below HM.out hbv)
            have HO2 := Lib.hid (Kd.R_below HO.out hbv)
            have HB2 := Lib.hid (HB.out.trans (hbv.mono HB.out.size))
            clear BKX BKK HM HO HB
            have BKX := BKX2
            have BKK := BKK2
            have HM := HM2
            have HO := HO2
            have HB := HB2
            clear BKX2 BKK2 HM2 HO2 HB2 hbv
            clear hHeld
            refine ⟨_, rfl, ?_⟩
            refine hK.out _ _ ⟨(blk_cell BKX.out 0).trans rfl, (blk_cell BKX.out 1).trans rfl, (blk_cell BKX.out 2).trans rfl, (blk_cell BKK.out 0).trans rfl, (blk_cell BKK.out 1).trans rfl, look_bool (HM.out) HKEY.out HSB.out, cell_below HB.out HU2.out⟩ (fun hHeld => ?_)
            clear hK K
            try (refine norm_ (a' := ?_) ?_ ?_; rotate_left; focus (simp only [Act.put, List.setIfInBounds_toArray, List.set_cons_zero, List.set_cons_succ, i64_w, i32_w]; rfl))
            refine pure_ (i := 7) (N := some 33) (v := .bool true) (a' := ?_) #[true, true, true, true, true, true, true, true, false, false, false, false, false, false, false, false, false, false, false, false, false, false] rfl rfl (by kernel_rfl) (fun _ _ _ h => h) (Or.inl ⟨by rfl, ?_⟩) ?_ ?_
            · intro w'
              go_simp
              try (with_reducible rfl)
            rotate_left
            · simp only [Act.put, List.setIfInBounds_toArray, List.set_cons_zero, List.set_cons_succ, i64_w, i32_w]
              rfl
            refine pure_ (i := 8) (N := some 34) (v := .bool true) (a' := ?_) #[true, true, true, true, true, true, true, true, true, false, false, false, false, false, false, false, false, false, false, false, false, false] rfl rfl (by kernel_rfl) (fun _ _ _ h => h) (Or.inl ⟨by rfl, ?_⟩) ?_ ?_
            · intro w'
              go_simp
              try (with_reducible rfl)
            rotate_left
            · simp only [Act.put, List.setIfInBounds_toArray, List.set_cons_zero, List.set_cons_succ, i64_w, i32_w]
              rfl
            refine pure_ (i := 9) (N := some 35) (v := .int .i64 (n : Int)) (a' := ?_) #[true, true, true, true, true, true, true, true, true, true, false, false, false, false, false, false, false, false, false, false, false, false] rfl rfl (by kernel_rfl) (fun _ _ _ h => h) (Or.inl ⟨by rfl, ?_⟩) ?_ ?_
            · intro w'
              go_simp
              try (with_reducible rfl)
            rotate_left
            · simp only [Act.put, List.setIfInBounds_toArray, List.set_cons_zero, List.set_cons_succ, i64_w, i32_w]
              rfl
            refine pure_ (i := 10) (N := some 36) (v := .bool false) (a' := ?_) #[true, true, true, true, true, true, true, true, true, true, true, false, false, false, false, false, false, false, false, false, false, false] rfl rfl (by kernel_rfl) (fun _ _ _ h => h) (Or.inl ⟨by rfl, ?_⟩) ?_ ?_
            · intro w'
              go_simp
              try (with_reducible rfl)
            rotate_left
            · simp only [Act.put, List.setIfInBounds_toArray, List.set_cons_zero, List.set_cons_succ, i64_w, i32_w]
              rfl
            refine pure_ (i := 11) (N := some 37) (v := .bool false) (a' := ?_) #[true, true, true, true, true, true, true, true, true, true, true, true, false, false, false, false, false, false, false, false, false, false] rfl rfl (by kernel_rfl) (fun _ _ _ h => h) (Or.inl ⟨by rfl, ?_⟩) ?_ ?_
            · intro w'
              go_simp
              try (with_reducible rfl)
            rotate_left
            · simp only [Act.put, List.setIfInBounds_toArray, List.set_cons_zero, List.set_cons_succ, i64_w, i32_w]
              rfl
            refine pure_ (i := 12) (N := some 38) (v := ?_) (a' := ?_) #[true, true, true, true, true, true, true, true, true, true, true, true, true, false, false, false, false, false, false, false, false, false] rfl rfl (by kernel_rfl) (fun _ _ _ h => h) (Or.inl ⟨by rfl, ?_⟩) ?_ ?_
            rotate_left
            · intro w'
              go_simp
              with_reducible rfl
            rotate_left
            · simp only [Act.put, List.setIfInBounds_toArray, List.set_cons_zero, List.set_cons_succ, i64_w, i32_w]
              rfl
            refine pure_ (i := 13) (N := some 39) (v := ?_) (a' := ?_) #[true, true, true, true, true, true, true, true, true, true, true, true, true, true, false, false, false, false, false, false, false, false] rfl rfl (by kernel_rfl) (fun _ _ _ h => h) (Or.inl ⟨by rfl, ?_⟩) ?_ ?_
            rotate_left
            · intro w'
              go_simp
              with_reducible rfl
            rotate_left
            · simp only [Act.put, List.setIfInBounds_toArray, List.set_cons_zero, List.set_cons_succ, i64_w, i32_w]
              rfl
            refine pure_ (i := 14) (N := some 40) (v := ?_) (a' := ?_) #[true, true, true, true, true, true, true, true, true, true, true, true, true, true, true, false, false, false, false, false, false, false] rfl rfl (by kernel_rfl) (fun _ _ _ h => h) (Or.inl ⟨by rfl, ?_⟩) ?_ ?_
            rotate_left
            · intro w'
              go_simp
              with_reducible rfl
            rotate_left
            · simp only [Act.put, List.setIfInBounds_toArray, List.set_cons_zero, List.set_cons_succ, i64_w, i32_w]
              rfl
            refine pure_ (i := 15) (N := some 41) (v := ?_) (a' := ?_) #[true, true, true, true, true, true, true, true, true, true, true, true, true, true, true, true, false, false, false, false, false, false] rfl rfl (by kernel_rfl) (fun _ _ _ h => h) (Or.inl ⟨by rfl, ?_⟩) ?_ ?_
            rotate_left
            · intro w'
              go_simp
              with_reducible rfl
            rotate_left
            · simp only [Act.put, List.setIfInBounds_toArray, List.set_cons_zero, List.set_cons_succ, i64_w, i32_w]
              rfl
            refine pure_ (i := 17) (N := some 43) (v := ?_) (a' := ?_) #[true, true, true, true, true, true, true, true, true, true, true, true, true, true, true, true, false, true, false, false, false, false] rfl rfl (by kernel_rfl) (fun _ _ _ h => h) (Or.inl ⟨by rfl, ?_⟩) ?_ ?_
            rotate_left
            · intro w'
              go_simp
              with_reducible rfl
            rotate_left
            · simp only [Act.put, List.setIfInBounds_toArray, List.set_cons_zero, List.set_cons_succ, i64_w, i32_w]
              rfl
            refine take_ (i := 16) (N := some 42) (v := .int .u32 uf2) (a' := ?_) #[true, true, true, true, true, true, true, true, true, true, true, true, true, true, true, true, true, true, false, false, false, false] rfl rfl (by kernel_rfl) (fun _ _ _ h => h) (Or.inl ⟨by rfl, ?_⟩) hHeld ?_ ?_
            · rintro w' ⟨s0, s1, s2, s3, s4, s5, s6⟩
              go_simp
              try (with_reducible rfl)
            rotate_left
            · simp only [Act.put, List.setIfInBounds_toArray, List.set_cons_zero, List.set_cons_succ, i64_w, i32_w]
              rfl
            refine take_ (i := 18) (N := some 44) (v := .int .u32 x.f2) (a' := ?_) #[true, true, true, true, true, true, true, true, true, true, true, true, true, true, true, true, true, true, true, false, false, false] rfl rfl (by kernel_rfl) (fun _ _ _ h => h) (Or.inl ⟨by rfl, ?_⟩) hHeld ?_ ?_
            · rintro w' ⟨s0, s1, s2, s3, s4, s5, s6⟩
              go_simp
              try (with_reducible rfl)
            rotate_left
            · simp only [Act.put, List.setIfInBounds_toArray, List.set_cons_zero, List.set_cons_succ, i64_w, i32_w]
              rfl
            refine pure_ (i := 19) (N := some 45) (v := .bool (uf2 != x.f2)) (a' := ?_) #[true, true, true, true, true, true, true, true, true, true, true, true, true, true, true, true, true, true, true, true, false, false] rfl rfl (by kernel_rfl) (fun _ _ _ h => h) (Or.inl ⟨by rfl, ?_⟩) ?_ ?_
            · intro w'
              go_simp
              try (with_reducible rfl)
            rotate_left
            · simp only [Act.put, List.setIfInBounds_toArray, List.set_cons_zero, List.set_cons_succ, i64_w, i32_w]
              rfl
            refine pure_ (i := 20) (N := some 46) (v := .bool (uf2 != x.f2)) (a' := ?_) #[true, true, true, true, true, true, true, true, true, true, true, true, true, true, true, true, true, true, true, true, true, false] rfl rfl (by kernel_rfl) (fun _ _ _ h => h) (Or.inl ⟨by rfl, ?_⟩) ?_ ?_
            · intro w'
              go_simp
              try (with_reducible rfl)
            rotate_left
            · simp only [Act.put, List.setIfInBounds_toArray, List.set_cons_zero, List.set_cons_succ, i64_w, i32_w]
              rfl
            refine pure_ (i := 21) (N := some 47) (v := .bool (uf2 != x.f2)) (a' := ?_) #[true, true, true, true, true, true, true, true, true, true, true, true, true, true, true, true, true, true, true, true, true, true] rfl rfl (by kernel_rfl) (fun _ _ _ h => h) (Or.inl ⟨by rfl, ?_⟩) ?_ ?_
            · intro w'
              go_simp
              try (with_reducible rfl)
            rotate_left
            · simp only [Act.put, List.setIfInBounds_toArray, List.set_cons_zero, List.set_cons_succ, i64_w, i32_w]
              rfl
            refine done_ (by kernel_rfl) ?_
            obtain ⟨vb, hvb⟩ : ∃ q, (uf2 != x.f2) = q := ⟨_, rfl⟩
            have HU := Lib.hid (HUPD.out vb hvb)
            rw [hvb]
            clear hvb HUPD
            cases vb with
            | false =>
              have HUPD : Hid (leanUp l0 (i + 1) = leanUp l0 i) := HU.out
              clear HU
              have k0 := (blk_cell BKK.out 0).trans rfl
              have k1 := (blk_cell BKK.out 1).trans rfl
              go_wp2_with (first | (at_mapUpdate; refine wpList_mapUpdate_own _ rfl _ _ _ 50 rfl 52 4 lawK Try.underlying50 _ bm i D rfl HM.out (by have := HI.out; have := HLEN.out; unfold maxLen; omega) _ _ _ rfl rfl HKEY.out _ [] (plainElem_bool Try.underlying4 true) ?_; intro w9 hm9 hg9; have HM9 := Lib.hid hm9; have HO9 := Lib.hid (R_map HO.out HM.out hg9); have HB9 := Lib.hid (HB.out.grown hg9 HB.out.size (fun j hj => by cases hj; exact HBM.out)); clear hm9 hg9 HM HO HB BKK) | fail)
              go_roundg (l0.length - i)
              case measure => have := HI.out; have := HLT.out; omega
              case rel => exact ⟨i + 1, D.put (keyL x.f0 x.f1) (.lit (.bool true)), by (have := HLT.out; have := HLEN.out; rw [wrapR (by omega) (by omega)]; rfl), Lib.hid (by have := HI.out; have := HLT.out; omega), by show Hid (Kd.R _ _ _ _ _ _ _); exact Lib.hid (by rw [HUPD.out]; exact HO9.out), HM9, Lib.hid (map_step l0 HFINE.out HLT.out HXE.out HMO.out), HB9⟩
            | true =>
              have HUPD : Hid (leanUp l0 (i + 1) = leanUp l0 i ++ [x]) := HU.out
              clear HU
              have k0 := (blk_cell BKK.out 0).trans rfl
              have k1 := (blk_cell BKK.out 1).trans rfl
              have x0 := (blk_cell BKX.out 0).trans rfl
              have x1 := (blk_cell BKX.out 1).trans rfl
              have x2 := (blk_cell BKX.out 2).trans rfl
              go_wp2_with (first | (at_builtin; refine Kd.R_append k32 (w0 := w) w.heap.size rfl (.tmp 48) (.tmp 50) 22 32 (.agg #[.int .u32 0, .int .i64 0, .int .u32 0]) 24 rfl Try.underlying22 rinfoL rfl (by decide) (by decide) u4 (leanUp l0 i) x [.int .u32 x.f0, .int .i64 x.f1, .int .u32 x.f2] (fun _ => True) (fun _ => False) rfl rfl ?aP ?aK ?aF ?aO ?aB ?aS ?aL ?_; (case aP => exact k32_mkM _ _ _ x); (case aK => exact fun _ h => h.elim); (case aF => exact fun _ _ => trivial); (case aO => exact HO.out); (case aB => exact HB.out); (case aS => exact HB.out.size); (case aL => have h1 := leanUp_len l0 i; have h2 := HLT.out; have h3 := HLEN.out; omega); intro v5 w5 ho hb hg5 hat; have HM5 := Lib.hid (HM.out.kept hg5 (R_mapne HO.out HM.out)); have BK5 := Lib.hid (blk_grown BKK.out hg5 (Kd.R_ne HO.out BKK.out (by decide))); have HO5 := Lib.hid ho; have HB5 := Lib.hid hb; clear HM HO HB BKK BKX k0 k1 x0 x1 x2 ho hb hg5 hat; have HM := HM5; have HO := HO5; have HB := HB5; have BKK := BK5; clear HM5 HO5 HB5 BK5; have k0 := (blk_cell BKK.out 0).trans rfl; have k1 := (blk_cell BKK.out 1).trans rfl) | (at_mapUpdate; refine wpList_mapUpdate_own _ rfl _ _ _ 50 rfl 52 4 lawK Try.underlying50 _ bm i D rfl HM.out (by have := HI.out; have := HLEN.out; unfold maxLen; omega) _ _ _ rfl rfl HKEY.out _ [] (plainElem_bool Try.underlying4 true) ?_; intro w9 hm9 hg9; have HM9 := Lib.hid hm9; have HO9 := Lib.hid (R_map HO.out HM.out hg9); have HB9 := Lib.hid (HB.out.grown hg9 HB.out.size (fun j hj => by cases hj; exact HBM.out)); clear hm9 hg9 HM HO HB BKK) | fail)
              go_roundg (l0.length - i)
              case measure => have := HI.out; have := HLT.out; omega
              case rel => exact ⟨i + 1, D.put (keyL x.f0 x.f1) (.lit (.bool true)), by (have := HLT.out; have := HLEN.out; rw [wrapR (by omega) (by omega)]; rfl), Lib.hid (by have := HI.out; have := HLT.out; omega), by show Hid (Kd.R _ _ _ _ _ _ _); exact Lib.hid (by rw [HUPD.out]; exact HO9.out), HM9, Lib.hid (map_step l0 HFINE.out HLT.out HXE.out HMO.out), HB9⟩
    · have hi : i = l0.length := by have := HI.out; omega
      have p1 : ((i : Int) < (l0.length : Int)) = False := eq_false (by omega)
      have p2 : (i < l0.length) = False := eq_false h
      have HO2 : Hid (Kd.R k32 32 wr w.heap.size (fun _ => True) u4 (leanUp l0 l0.length)) := by show Kd.R _ _ _ _ _ _ _; rw [← hi]; exact HO.out
      clear h hi HI HM HMO HO
      go_wp2_with fail
      go_ret
      exact ⟨_, rfl, HO2.out, HB.out⟩
end Go.Proofs.Yteniakelhalojaa
