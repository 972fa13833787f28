/-
  packet.read in the print's form. Condition: bytes, fewer than 2^40.
  packet.Decode in the print's form. Condition: bytes, fewer than 2^40.
  Packets of bytes, over lists: what packet.Decode and the reference's Decode compute; what is encoded is decoded. No condition of their own.
  Packets and their bytes, over lists: what the law PacketBack tells. No condition of its own.
  option.of, slices.IndexFunc of options by any test, and option.Find: the data of the first option of a code. Conditions: fewer than 2^47 bytes of data each.
  An option's cells where its data is only read. (Printed for another seat.)
  What the proofs on a put of options share: rows of options of the call's own, and what a put makes of them. No condition.
  What a put makes of options, over lists: what was put is found, just once, and all others are as they were.
-/
import Derived.Test.YtdpoknfidlekbaaDoorMTR4
import Derived.Test.YtdpoknfidlekbaaDoorMTR3
import Derived.Lib.Hide
import Derived.RangeFuncBox
import Derived.Test.YtdpoknfidlekbaaDoorMTR1
import Derived.Test.YtdpoknfidlekbaaDoorWNEv

section
namespace Go.Proofs.YtdpoknfidlekbaaDoor
open Go.RowKit Go.Proofs.YtdpoknfidlekbaaDoor.Pr Go.Proofs.YtdpoknfidlekbaaDoorW.PrintWords Go.Proofs.YtdpoknfidlekbaaDoorW.PrintLast Go.Proofs.YtdpoknfidlekbaaDoorW.PrintMore
attribute [local go_sem] max2_int min2_int max_two min_two max_three min_three max_four min_four
set_option linter.unusedVariables false
set_option linter.unusedSimpArgs false

abbrev pkNilC : Array Value := #[.int .i64 0, .int .u32 0, .int .i64 0, .int .i64 0, .int .u32 0, .int .u32 0, .int .u32 0, .int .u32 0, .slice none 0 0, .slice none 0 0]
theorem pk10 {W : World} {bp : Nat} {t : TypeId} {o0 o1 o2 o3 o4 o5 o6 o7 o8 o9 : Value} (h : W.heap[bp]? = some (.cells #[o0, o1, o2, o3, o4, o5, o6, o7, o8, o9] t (0, 0))) (v0 v1 v2 v3 v4 v5 v6 v7 v8 v9 : Value) :
    ((((((((((W.setCell ⟨bp, 0, none⟩ v0).setCell ⟨bp, 1, none⟩ v1).setCell ⟨bp, 2, none⟩ v2).setCell ⟨bp, 3, none⟩ v3).setCell ⟨bp, 4, none⟩ v4).setCell ⟨bp, 5, none⟩ v5).setCell ⟨bp, 6, none⟩ v6).setCell ⟨bp, 7, none⟩ v7).setCell ⟨bp, 8, none⟩ v8).setCell ⟨bp, 9, none⟩ v9).heap[bp]? = some (.cells #[v0, v1, v2, v3, v4, v5, v6, v7, v8, v9] t (0, 0)) := by
  have h0 : (W.setCell ⟨bp, 0, none⟩ v0).heap[bp]? = some (.cells #[v0, o1, o2, o3, o4, o5, o6, o7, o8, o9] t (0, 0)) := blk_put h 0 v0 rfl
  have h1 : ((W.setCell ⟨bp, 0, none⟩ v0).setCell ⟨bp, 1, none⟩ v1).heap[bp]? = some (.cells #[v0, v1, o2, o3, o4, o5, o6, o7, o8, o9] t (0, 0)) := blk_put h0 1 v1 rfl
  have h2 : (((W.setCell ⟨bp, 0, none⟩ v0).setCell ⟨bp, 1, none⟩ v1).setCell ⟨bp, 2, none⟩ v2).heap[bp]? = some (.cells #[v0, v1, v2, o3, o4, o5, o6, o7, o8, o9] t (0, 0)) := blk_put h1 2 v2 rfl
  have h3 : ((((W.setCell ⟨bp, 0, none⟩ v0).setCell ⟨bp, 1, none⟩ v1).setCell ⟨bp, 2, none⟩ v2).setCell ⟨bp, 3, none⟩ v3).heap[bp]? = some (.cells #[v0, v1, v2, v3, o4, o5, o6, o7, o8, o9] t (0, 0)) := blk_put h2 3 v3 rfl
  have h4 : (((((W.setCell ⟨bp, 0, none⟩ v0).setCell ⟨bp, 1, none⟩ v1).setCell ⟨bp, 2, none⟩ v2).setCell ⟨bp, 3, none⟩ v3).setCell ⟨bp, 4, none⟩ v4).heap[bp]? = some (.cells #[v0, v1, v2, v3, v4, o5, o6, o7, o8, o9] t (0, 0)) := blk_put h3 4 v4 rfl
  have h5 : ((((((W.setCell ⟨bp, 0, none⟩ v0).setCell ⟨bp, 1, none⟩ v1).setCell ⟨bp, 2, none⟩ v2).setCell ⟨bp, 3, none⟩ v3).setCell ⟨bp, 4, none⟩ v4).setCell ⟨bp, 5, none⟩ v5).heap[bp]? = some (.cells #[v0, v1, v2, v3, v4, v5, o6, o7, o8, o9] t (0, 0)) := blk_put h4 5 v5 rfl
  have h6 : (((((((W.setCell ⟨bp, 0, none⟩ v0).setCell ⟨bp, 1, none⟩ v1).setCell ⟨bp, 2, none⟩ v2).setCell ⟨bp, 3, none⟩ v3).setCell ⟨bp, 4, none⟩ v4).setCell ⟨bp, 5, none⟩ v5).setCell ⟨bp, 6, none⟩ v6).heap[bp]? = some (.cells #[v0, v1, v2, v3, v4, v5, v6, o7, o8, o9] t (0, 0)) := blk_put h5 6 v6 rfl
  have h7 : ((((((((W.setCell ⟨bp, 0, none⟩ v0).setCell ⟨bp, 1, none⟩ v1).setCell ⟨bp, 2, none⟩ v2).setCell ⟨bp, 3, none⟩ v3).setCell ⟨bp, 4, none⟩ v4).setCell ⟨bp, 5, none⟩ v5).setCell ⟨bp, 6, none⟩ v6).setCell ⟨bp, 7, none⟩ v7).heap[bp]? = some (.cells #[v0, v1, v2, v3, v4, v5, v6, v7, o8, o9] t (0, 0)) := blk_put h6 7 v7 rfl
  have h8 : (((((((((W.setCell ⟨bp, 0, none⟩ v0).setCell ⟨bp, 1, none⟩ v1).setCell ⟨bp, 2, none⟩ v2).setCell ⟨bp, 3, none⟩ v3).setCell ⟨bp, 4, none⟩ v4).setCell ⟨bp, 5, none⟩ v5).setCell ⟨bp, 6, none⟩ v6).setCell ⟨bp, 7, none⟩ v7).setCell ⟨bp, 8, none⟩ v8).heap[bp]? = some (.cells #[v0, v1, v2, v3, v4, v5, v6, v7, v8, o9] t (0, 0)) := blk_put h7 8 v8 rfl
  have h9 : ((((((((((W.setCell ⟨bp, 0, none⟩ v0).setCell ⟨bp, 1, none⟩ v1).setCell ⟨bp, 2, none⟩ v2).setCell ⟨bp, 3, none⟩ v3).setCell ⟨bp, 4, none⟩ v4).setCell ⟨bp, 5, none⟩ v5).setCell ⟨bp, 6, none⟩ v6).setCell ⟨bp, 7, none⟩ v7).setCell ⟨bp, 8, none⟩ v8).setCell ⟨bp, 9, none⟩ v9).heap[bp]? = some (.cells #[v0, v1, v2, v3, v4, v5, v6, v7, v8, v9] t (0, 0)) := blk_put h8 9 v9 rfl
  exact h9
theorem pk10_far {W : World} {bp k : Nat} (hk : k ≠ bp) (v0 v1 v2 v3 v4 v5 v6 v7 v8 v9 : Value) : ((((((((((W.setCell ⟨bp, 0, none⟩ v0).setCell ⟨bp, 1, none⟩ v1).setCell ⟨bp, 2, none⟩ v2).setCell ⟨bp, 3, none⟩ v3).setCell ⟨bp, 4, none⟩ v4).setCell ⟨bp, 5, none⟩ v5).setCell ⟨bp, 6, none⟩ v6).setCell ⟨bp, 7, none⟩ v7).setCell ⟨bp, 8, none⟩ v8).setCell ⟨bp, 9, none⟩ v9).heap[k]? = W.heap[k]? := by
  simp only [Below.heap_setCell _ _ _ _ (show k ≠ (⟨bp, _, none⟩ : Addr).block from hk)]
theorem pk10_below {w W : World} {bp : Nat} (hB : Below w.heap.size w W) (hg : w.heap.size ≤ bp) (v0 v1 v2 v3 v4 v5 v6 v7 v8 v9 : Value) : Below w.heap.size w ((((((((((W.setCell ⟨bp, 0, none⟩ v0).setCell ⟨bp, 1, none⟩ v1).setCell ⟨bp, 2, none⟩ v2).setCell ⟨bp, 3, none⟩ v3).setCell ⟨bp, 4, none⟩ v4).setCell ⟨bp, 5, none⟩ v5).setCell ⟨bp, 6, none⟩ v6).setCell ⟨bp, 7, none⟩ v7).setCell ⟨bp, 8, none⟩ v8).setCell ⟨bp, 9, none⟩ v9) :=
  below_set (below_set (below_set (below_set (below_set (below_set (below_set (below_set (below_set (below_set hB hg) hg) hg) hg) hg) hg) hg) hg) hg) hg
set_option maxRecDepth 100000 in
set_option maxHeartbeats 4000000 in
/-- The deferred closure, in a frame that panics with a fault. -/
theorem catch_fault (bp bf : Nat) {o0 o1 o2 o3 o4 o5 o6 o7 o8 o9 : Value} (b : Bool) (older : List PanicEntry) (w : World) (hl : w.heap[bp]? = some (.cells #[o0, o1, o2, o3, o4, o5, o6, o7, o8, o9] 27 (0, 0))) (hf : Boxed w bf 4 (.bool b)) (hne : bf ≠ bp) :
    CallsD Tryd.prog 32 #[.pointer (some ⟨bp, 0, none⟩), .pointer (some ⟨bf, 0, none⟩)] (.panicking ({ v := .iface 73 (.agg #[]), recovered := false } :: older)) w fun e u' w' =>
      e = .returned (.tuple #[]) ∧ u' = .panicking ({ v := .iface 73 (.agg #[]), recovered := true } :: older) ∧ w' = (((((((((((w.alloc (.cells #[] 73)).setCell ⟨bp, 0, none⟩ (.int .i64 0)).setCell ⟨bp, 1, none⟩ (.int .u32 0)).setCell ⟨bp, 2, none⟩ (.int .i64 0)).setCell ⟨bp, 3, none⟩ (.int .i64 0)).setCell ⟨bp, 4, none⟩ (.int .u32 0)).setCell ⟨bp, 5, none⟩ (.int .u32 0)).setCell ⟨bp, 6, none⟩ (.int .u32 0)).setCell ⟨bp, 7, none⟩ (.int .u32 0)).setCell ⟨bp, 8, none⟩ (.slice none 0 0)).setCell ⟨bp, 9, none⟩ (.slice none 0 0)).setCell ⟨bf, 0, none⟩ (.bool false) := by
  have hl1 : (w.alloc (.cells #[] 73)).heap[bp]? = _ := ((below_alloc (Below.refl w.heap.size w) (.cells #[] 73)).block bp (blk_lt hl)).trans hl
  have hf1 : Boxed (w.alloc (.cells #[] 73)) bf 4 (.bool b) := hf.alloc _
  obtain ⟨W, hW⟩ : ∃ W, w.alloc (.cells #[] 73) = W := ⟨_, rfl⟩
  rw [hW] at hl1 hf1 ⊢
  have u0 := (blk_cell hl1 0).trans rfl
  have f0 := blk_frozen hl1 0
  have u1 := (blk_cell hl1 1).trans rfl
  have f1 := blk_frozen hl1 1
  have u2 := (blk_cell hl1 2).trans rfl
  have f2 := blk_frozen hl1 2
  have u3 := (blk_cell hl1 3).trans rfl
  have f3 := blk_frozen hl1 3
  have u4 := (blk_cell hl1 4).trans rfl
  have f4 := blk_frozen hl1 4
  have u5 := (blk_cell hl1 5).trans rfl
  have f5 := blk_frozen hl1 5
  have u6 := (blk_cell hl1 6).trans rfl
  have f6 := blk_frozen hl1 6
  have u7 := (blk_cell hl1 7).trans rfl
  have f7 := blk_frozen hl1 7
  have u8 := (blk_cell hl1 8).trans rfl
  have f8 := blk_frozen hl1 8
  have u9 := (blk_cell hl1 9).trans rfl
  have f9 := blk_frozen hl1 9
  have hfz : Boxed ((((((((((W.setCell ⟨bp, 0, none⟩ (.int .i64 0)).setCell ⟨bp, 1, none⟩ (.int .u32 0)).setCell ⟨bp, 2, none⟩ (.int .i64 0)).setCell ⟨bp, 3, none⟩ (.int .i64 0)).setCell ⟨bp, 4, none⟩ (.int .u32 0)).setCell ⟨bp, 5, none⟩ (.int .u32 0)).setCell ⟨bp, 6, none⟩ (.int .u32 0)).setCell ⟨bp, 7, none⟩ (.int .u32 0)).setCell ⟨bp, 8, none⟩ (.slice none 0 0)).setCell ⟨bp, 9, none⟩ (.slice none 0 0)) bf 4 (.bool b) := (pk10_far hne (.int .i64 0) (.int .u32 0) (.int .i64 0) (.int .i64 0) (.int .u32 0) (.int .u32 0) (.int .u32 0) (.int .u32 0) (.slice none 0 0) (.slice none 0 0)).trans hf1
  have y3 := hfz.cell
  have z3 := hfz.frozen
  clear hfz hf1 hl1 hl hf
  have hta : ∀ w, (Instr.typeAssert (.iface 73 (.agg #[])) 20 73 true).run Tryd.prog w = .ok (.tuple #[.agg #[], .bool true]) w := fun w => by kernel_rfl
  refine callsD_of_wpS Tryd.func32 rfl fun c₀ cs hu => ?_
  apply wpS_seq
  apply wpS_region
  simp [wpOpsS, go_sem, recoverD, hu, Tryd.ntmps32, Exit.thenS, hta, Act.put, Array.replicate]
  clear hta
  rw [hW]
  apply wpS_seq
  apply wpS_region
  simp [wpOpsS, go_sem, Exit.thenS, Act.put]
  refine wpS_cond (t := true) (by simp [Act.eval, Array.replicate]) ?_
  simp only [if_true]
  apply wpS_region
  simp [wpOpsS, go_sem, u0, f0, u1, f1, u2, f2, u3, f3, u4, f4, u5, f5, u6, f6, u7, f7, u8, f8, u9, f9, y3, z3, bodyPostS, results, Tryd.results32, hu]
set_option maxRecDepth 100000 in
theorem catch_nofault (bp bf : Nat) (w : World) :
    CallsD Tryd.prog 32 #[.pointer (some ⟨bp, 0, none⟩), .pointer (some ⟨bf, 0, none⟩)] .returning w fun e u' w' => e = .returned (.tuple #[]) ∧ u' = .returning ∧ w' = w.alloc (.cells #[] 73) := by
  have hta : ∀ w, (Instr.typeAssert .nilIface 20 73 true).run Tryd.prog w = .ok (.tuple #[.agg #[], .bool false]) w := fun w => by kernel_rfl
  refine callsD_of_wpS Tryd.func32 rfl fun c₀ cs hu => ?_
  apply wpS_seq
  apply wpS_region
  simp [wpOpsS, go_sem, recoverD, hu, Tryd.ntmps32, Exit.thenS, hta, Act.put, Array.replicate]
  clear hta
  apply wpS_seq
  apply wpS_region
  simp [wpOpsS, go_sem, Exit.thenS, Act.put]
  refine wpS_cond (t := false) (by simp [Act.eval, Array.replicate]) ?_
  simp only [Bool.false_eq_true, if_false]
  refine wpS_of_wp (wp_skip ?_)
  cases c₀
  simp_all [bodyPostS, results, Tryd.results32]
theorem prd_leaves {tmps : Array Value} {R : Ending → World → Prop} {W : World} {bp bf : Nat} {a0 a1 a2 a3 a4 a5 a6 a7 : Int} {A8 A9 : Option Addr} {n8 c8 n9 c9 : Nat} {b : Bool} (h2 : tmps[2]? = some (.pointer (some ⟨bp, 0, none⟩))) (h3 : tmps[3]? = some (.pointer (some ⟨bf, 0, none⟩)))
    (hl : W.heap[bp]? = some (.cells #[.int .i64 a0, .int .u32 a1, .int .i64 a2, .int .i64 a3, .int .u32 a4, .int .u32 a5, .int .u32 a6, .int .u32 a7, .slice A8 n8 c8, .slice A9 n9 c9] 27 (0, 0))) (hf : Boxed W bf 4 (.bool b)) (h : R (.returned (.tuple #[.agg #[.int .i64 a0, .int .u32 a1, .int .i64 a2, .int .i64 a3, .int .u32 a4, .int .u32 a5, .int .u32 a6, .int .u32 a7, .slice A8 n8 c8, .slice A9 n9 c9], .bool b])) W) : Leaves Tryd.prog Tryd.f25 tmps R [] .returning W := by
  refine ⟨.tuple #[.agg #[.int .i64 a0, .int .u32 a1, .int .i64 a2, .int .i64 a3, .int .u32 a4, .int .u32 a5, .int .u32 a6, .int .u32 a7, .slice A8 n8 c8, .slice A9 n9 c9], .bool b], ?_, h⟩
  have y0 := (blk_cell hl 0).trans rfl
  have y1 := (blk_cell hl 1).trans rfl
  have y2 := (blk_cell hl 2).trans rfl
  have y3 := (blk_cell hl 3).trans rfl
  have y4 := (blk_cell hl 4).trans rfl
  have y5 := (blk_cell hl 5).trans rfl
  have y6 := (blk_cell hl 6).trans rfl
  have y7 := (blk_cell hl 7).trans rfl
  have y8 := (blk_cell hl 8).trans rfl
  have y9 := (blk_cell hl 9).trans rfl
  have yf := hf.cell
  simp [results, Tryd.results25, go_sem, h2, h3, yf, y0, y1, y2, y3, y4, y5, y6, y7, y8, y9]
theorem prd_ret {tmps : Array Value} {R : Ending → World → Prop} {W : World} {bp bf : Nat} {a0 a1 a2 a3 a4 a5 a6 a7 : Int} {A8 A9 : Option Addr} {n8 c8 n9 c9 : Nat} {b : Bool} (h2 : tmps[2]? = some (.pointer (some ⟨bp, 0, none⟩))) (h3 : tmps[3]? = some (.pointer (some ⟨bf, 0, none⟩)))
    (hl : W.heap[bp]? = some (.cells #[.int .i64 a0, .int .u32 a1, .int .i64 a2, .int .i64 a3, .int .u32 a4, .int .u32 a5, .int .u32 a6, .int .u32 a7, .slice A8 n8 c8, .slice A9 n9 c9] 27 (0, 0))) (hf : Boxed W bf 4 (.bool b)) (h : R (.returned (.tuple #[.agg #[.int .i64 a0, .int .u32 a1, .int .i64 a2, .int .i64 a3, .int .u32 a4, .int .u32 a5, .int .u32 a6, .int .u32 a7, .slice A8 n8 c8, .slice A9 n9 c9], .bool b])) (W.alloc (.cells #[] 73))) :
    bodyPostD Tryd.prog Tryd.f25 R .ret { tmps := tmps, defers := [{ target := .fn (.func 32) #[.pointer (some ⟨bp, 0, none⟩), .pointer (some ⟨bf, 0, none⟩)], args := #[] }] } W := by
  show Leaves _ _ _ _ _ _ _
  refine leaves_cons (f := 32) (args := #[.pointer (some ⟨bp, 0, none⟩), .pointer (some ⟨bf, 0, none⟩)]) (by simp) (by simp [go_sem]) ?_
  refine (catch_nofault bp bf _).mono ?_
  rintro e u' w'' ⟨rfl, rfl, rfl⟩
  exact prd_leaves h2 h3 (((below_alloc (Below.refl W.heap.size W) _).block bp (blk_lt hl)).trans hl) (hf.alloc _) h
/-- What stands between two calls. -/
structure PrSt (w : World) (bp bf g : Nat) (l : List Int) (cs : Array Value) (j : Nat) (W : World) : Prop where
  pk : W.heap[bp]? = some (.cells cs 27 (0, 0))
  fl : Boxed W bf 4 (.bool false)
  rd : RdAt w g l j W
  be : Below w.heap.size w W
  ord : w.heap.size ≤ bp ∧ bp < bf ∧ bf < g
theorem PrSt.one {w W W' : World} {bp bf g j j' : Nat} {l : List Int} {cs : Array Value} (h : PrSt w bp bf g l cs j W) (ho : OneBut W W' g) (hr : RdAt w g l j' W') : PrSt w bp bf g l cs j' W' := by
  have h1 := h.ord
  exact ⟨(ho.block bp (blk_lt h.pk) (by omega)).trans h.pk, (ho.block bf h.fl.lt (by omega)).trans h.fl, hr, ho.below h.be (by omega), h.ord⟩
theorem PrSt.grow {w W W' : World} {bp bf g j : Nat} {l : List Int} {cs : Array Value} (h : PrSt w bp bf g l cs j W) (hb : Below W.heap.size W W') : PrSt w bp bf g l cs j W' :=
  ⟨(hb.block bp (blk_lt h.pk)).trans h.pk, (hb.block bf h.fl.lt).trans h.fl, h.rd.move (hb.block g h.rd.lt), h.be.trans (hb.mono h.be.size), h.ord⟩
theorem PrSt.put {w W : World} {bp bf g j : Nat} {l : List Int} {cs cs' : Array Value} (h : PrSt w bp bf g l cs j W) (i : Nat) (v : Value) (e : cs.setIfInBounds i v = cs') : PrSt w bp bf g l cs' j (W.setCell ⟨bp, i, none⟩ v) := by
  have h1 := h.ord
  have hm : ∀ k, k ≠ bp → (W.setCell ⟨bp, i, none⟩ v).heap[k]? = W.heap[k]? := fun k hk => Below.heap_setCell _ _ _ k hk
  exact ⟨by rw [← e]; exact blk_set h.pk i v, (hm bf (by omega)).trans h.fl, h.rd.move (hm g (by omega)), below_set h.be (by omega), h.ord⟩
theorem prd_panic {w W : World} {bp bf g : Nat} {o0 o1 o2 o3 o4 o5 o6 o7 o8 o9 : Value} {tmps : Array Value} {R : Ending → World → Prop} (hpk : W.heap[bp]? = some (.cells #[o0, o1, o2, o3, o4, o5, o6, o7, o8, o9] 27 (0, 0))) (hfl : Boxed W bf 4 (.bool false)) (hbe : Below w.heap.size w W) (h1 : w.heap.size ≤ bp ∧ bp < bf ∧ bf < g) (h2 : tmps[2]? = some (.pointer (some ⟨bp, 0, none⟩))) (h3 : tmps[3]? = some (.pointer (some ⟨bf, 0, none⟩)))
    (hR : ∀ W', Below w.heap.size w W' → R (.returned (.tuple #[.agg pkNilC, .bool false])) W') :
    bodyPostD Tryd.prog Tryd.f25 R (.panic faultP) { tmps := tmps, defers := [{ target := .fn (.func 32) #[.pointer (some ⟨bp, 0, none⟩), .pointer (some ⟨bf, 0, none⟩)], args := #[] }] } W := by
  show Leaves _ _ _ _ _ _ _
  refine leaves_cons (f := 32) (args := #[.pointer (some ⟨bp, 0, none⟩), .pointer (some ⟨bf, 0, none⟩)]) (by simp) (by simp [go_sem]) ?_
  refine (catch_fault bp bf false [] _ hpk hfl (by omega)).mono ?_
  rintro e u' w'' ⟨rfl, rfl, rfl⟩
  show Leaves _ _ _ _ [] .returning _
  have hl1 : (W.alloc (.cells #[] 73)).heap[bp]? = _ := ((below_alloc (Below.refl W.heap.size W) (.cells #[] 73)).block bp (blk_lt hpk)).trans hpk
  have hf1 : Boxed (W.alloc (.cells #[] 73)) bf 4 (.bool false) := hfl.alloc _
  have hb1 : Below w.heap.size w (W.alloc (.cells #[] 73)) := below_alloc hbe _
  have hp2 := pk10 hl1 (.int .i64 0) (.int .u32 0) (.int .i64 0) (.int .i64 0) (.int .u32 0) (.int .u32 0) (.int .u32 0) (.int .u32 0) (.slice none 0 0) (.slice none 0 0)
  have hf2 : Boxed (((((((((((W.alloc (.cells #[] 73)).setCell ⟨bp, 0, none⟩ (.int .i64 0)).setCell ⟨bp, 1, none⟩ (.int .u32 0)).setCell ⟨bp, 2, none⟩ (.int .i64 0)).setCell ⟨bp, 3, none⟩ (.int .i64 0)).setCell ⟨bp, 4, none⟩ (.int .u32 0)).setCell ⟨bp, 5, none⟩ (.int .u32 0)).setCell ⟨bp, 6, none⟩ (.int .u32 0)).setCell ⟨bp, 7, none⟩ (.int .u32 0)).setCell ⟨bp, 8, none⟩ (.slice none 0 0)).setCell ⟨bp, 9, none⟩ (.slice none 0 0)) bf 4 (.bool false) := (pk10_far (by omega) (.int .i64 0) (.int .u32 0) (.int .i64 0) (.int .i64 0) (.int .u32 0) (.int .u32 0) (.int .u32 0) (.int .u32 0) (.slice none 0 0) (.slice none 0 0)).trans hf1
  refine prd_leaves h2 h3 ((Below.heap_setCell _ _ _ bp (show bp ≠ bf by omega)).trans hp2) (hf2.set _) (hR _ (below_set (pk10_below hb1 h1.1 _ _ _ _ _ _ _ _ _ _) (by omega)))
theorem idxp (a b c d : Addr) (i : Nat) (hi : i < 4) (W : World) : (Instr.index 80 (.agg #[.pointer (some a), .pointer (some b), .pointer (some c), .pointer (some d)]) (.int .i64 (i : Int))).run Tryd.prog W = .ok (.pointer (some (([a, b, c, d] : List Addr).getD i a))) W := by
  have hu : Tryd.prog.underlying 80 = some (.array 4 79) := by kernel_rfl
  have hs : (Tryd.prog.info? 79).map (fun i => (i.size, i.zero)) = some (1, some (.pointer none)) := by kernel_rfl
  obtain ⟨i0, h0, h1⟩ := Option.map_eq_some_iff.1 hs
  simp only [Prod.mk.injEq] at h1
  obtain rfl | rfl | rfl | rfl : i = 0 ∨ i = 1 ∨ i = 2 ∨ i = 3 := by omega
  all_goals simp [Instr.index, asIntOf, run_underlying hu, sizeOf, part, typeInfo, h0, h1.1, h1.2]
/-! ### what is read -/
def rdOk (l : List Int) : Prop := 240 ≤ l.length ∧ bA l 1 = 1 ∧ bA l 2 ≤ 16 ∧ bA l 3 = 0 ∧ (∀ x ∈ (l.drop (28 + (bA l 2).toNat)).take (208 - (bA l 2).toNat), x = 0) ∧ lA l 236 = 1669485411 ∧ (odR (l.drop 240)).2 = 0
instance (l : List Int) : Decidable (rdOk l) := by unfold rdOk; infer_instance
abbrev PrT := Int × Int × Int × Int × Int × Int × Int × Int × List Int × List OptP × Bool
def rdP (l : List Int) : PrT := if rdOk l then (bA l 0, lA l 4, sA l 8, sA l 10, lA l 12, lA l 16, lA l 20, lA l 24, (l.drop 28).take (bA l 2).toNat, (odR (l.drop 240)).1, true) else (0, 0, 0, 0, 0, 0, 0, 0, [], [], false)
def packet_read.f (l0 : List Int) : Option PrT := if (∀ x ∈ l0, 0 ≤ x ∧ x ≤ 255) ∧ l0.length < 1099511627776 then some (rdP l0) else none
def adC (l0 : List Int) : Nat → Array Value
  | 0 => #[.int .i64 (bA l0 0), .int .u32 (lA l0 4), .int .i64 (sA l0 8), .int .i64 (sA l0 10), .int .u32 0, .int .u32 0, .int .u32 0, .int .u32 0, .slice none 0 0, .slice none 0 0]
  | 1 => #[.int .i64 (bA l0 0), .int .u32 (lA l0 4), .int .i64 (sA l0 8), .int .i64 (sA l0 10), .int .u32 (lA l0 12), .int .u32 0, .int .u32 0, .int .u32 0, .slice none 0 0, .slice none 0 0]
  | 2 => #[.int .i64 (bA l0 0), .int .u32 (lA l0 4), .int .i64 (sA l0 8), .int .i64 (sA l0 10), .int .u32 (lA l0 12), .int .u32 (lA l0 16), .int .u32 0, .int .u32 0, .slice none 0 0, .slice none 0 0]
  | 3 => #[.int .i64 (bA l0 0), .int .u32 (lA l0 4), .int .i64 (sA l0 8), .int .i64 (sA l0 10), .int .u32 (lA l0 12), .int .u32 (lA l0 16), .int .u32 (lA l0 20), .int .u32 0, .slice none 0 0, .slice none 0 0]
  | _ => #[.int .i64 (bA l0 0), .int .u32 (lA l0 4), .int .i64 (sA l0 8), .int .i64 (sA l0 10), .int .u32 (lA l0 12), .int .u32 (lA l0 16), .int .u32 (lA l0 20), .int .u32 (lA l0 24), .slice none 0 0, .slice none 0 0]
set_option maxHeartbeats 8000000 in
set_option maxRecDepth 100000 in
theorem packet_read.calls (A0 : Option Addr) (c0 : Nat) (l0 : List Int) (r1 r2 r3 r4 r5 r6 r7 r8 : Int) (r9 : List Int) (r10 : List OptP) (r11 : Bool) (w : World) (hr0 : Kd.C (Kd.int .u8) w A0 l0.length l0) (hc0 : l0.length ≤ c0) (h : packet_read.f l0 = some (r1, r2, r3, r4, r5, r6, r7, r8, r9, r10, r11)) :
    Calls Tryd.prog 25 #[.slice A0 l0.length c0] w fun e w' => ∃ v8_ v9_ : Value, e = .returned (.tuple #[.agg #[.int .i64 r1, .int .u32 r2, .int .i64 r3, .int .i64 r4, .int .u32 r5, .int .u32 r6, .int .u32 r7, .int .u32 r8, v8_, v9_], .bool r11]) ∧ Kd.R (Kd.int .u8) 5 w' w.heap.size (fun _ => True) v8_ r9 ∧ Kd.S k53 53 w' w.heap.size (fun k_ => some k_ ≠ (v8_ : Value).ownBlock) v9_ r10 ∧ Below w.heap.size w w' := by
  unfold packet_read.f at h
  split at h
  case isFalse => cases h
  rename_i hcond
  obtain ⟨hby, hlen⟩ := hcond
  have h := Option.some.inj h
  have hmf : ∀ (fn : Fn) (first cap : Array Value) (w : World), (Instr.makeFunc fn first cap).run Tryd.prog w = .ok (.func fn first cap) w := fun _ _ _ _ => rfl
  have HPAN : Hid (¬ rdOk l0 → ∀ (e : Ending) (w' : World), e = .returned (.tuple #[.agg pkNilC, .bool false]) ∧ Below w.heap.size w w' → ∃ v8_ v9_ : Value, e = .returned (.tuple #[.agg #[.int .i64 r1, .int .u32 r2, .int .i64 r3, .int .i64 r4, .int .u32 r5, .int .u32 r6, .int .u32 r7, .int .u32 r8, v8_, v9_], .bool r11]) ∧ Kd.R (Kd.int .u8) 5 w' w.heap.size (fun _ => True) v8_ r9 ∧ Kd.S k53 53 w' w.heap.size (fun k_ => some k_ ≠ (v8_ : Value).ownBlock) v9_ r10 ∧ Below w.heap.size w w') := by
    rintro hno e w' ⟨he, hb⟩
    unfold rdP at h
    rw [if_neg hno] at h
    simp only [Prod.mk.injEq] at h
    obtain ⟨rfl, rfl, rfl, rfl, rfl, rfl, rfl, rfl, rfl, rfl, rfl⟩ := h
    exact ⟨_, _, he, Kd.R_nil _ _ _ _ _, Kd.S_nil _ _ _ _ _, hb⟩
  have HRES := Lib.hid h
  have HC := Lib.hid hr0
  have HBY := Lib.hid hby
  clear h hr0 hby
  go_enter_defers Tryd.func25, Tryd.ntmps25
  go_upto_region 1 with fail
  obtain ⟨bp, hbp⟩ : ∃ b, w.heap.size = b := ⟨_, rfl⟩
  obtain ⟨bf, hbf⟩ : ∃ b, bp + 1 = b := ⟨_, rfl⟩
  obtain ⟨w1, hw1⟩ : ∃ W, (w.alloc (.cells pkNilC 27)).alloc (.cells #[.bool false] 4) = W := ⟨_, rfl⟩
  have hp1 : w1.heap[bp]? = some (.cells pkNilC 27 (0, 0)) := by rw [← hw1, ← hbp]; exact (Below.heap_alloc _ _ _ (by simp)).trans (blk_new _ _)
  have hf1 : Boxed w1 bf 4 (.bool false) := by
    have := Boxed.new (w.alloc (.cells pkNilC 27)) 4 (.bool false)
    rw [← hw1, ← hbf, ← hbp]
    simpa using this
  have hb1 : Below w.heap.size w w1 := by rw [← hw1]; exact below_alloc (below_alloc (Below.refl _ _) _) _
  have HORD : Hid (w.heap.size ≤ bp ∧ bp < bf ∧ bf < w1.heap.size) := ⟨by omega, by omega, hf1.lt⟩
  have HQ := Lib.hid (And.intro hp1 (And.intro hf1 hb1))
  clear hp1 hf1 hb1
  rw [hbp, hbf]
  try rw [hw1]
  clear hbp hbf hw1
  go_upto_region 3 with fail
  obtain ⟨g, hg⟩ : ∃ b, w1.heap.size = b := ⟨_, rfl⟩
  obtain ⟨w3, hw3⟩ : ∃ W, w1.alloc (.cells #[.slice A0 l0.length c0] 75) = W := ⟨_, rfl⟩
  have S0 : PrSt w bp bf g l0 #[.int .i64 0, .int .u32 0, .int .i64 0, .int .i64 0, .int .u32 0, .int .u32 0, .int .u32 0, .int .u32 0, .slice none 0 0, .slice none 0 0] 0 w3 := by
    obtain ⟨hp1, hf1, hb1⟩ := HQ.out
    have hb3 : Below w1.heap.size w1 w3 := by rw [← hw3]; exact below_alloc (Below.refl _ _) _
    have hn3 : Boxed w3 g 75 (.slice A0 l0.length c0) := by rw [← hw3, ← hg]; exact Boxed.new _ _ _
    refine ⟨(hb3.block bp (blk_lt hp1)).trans hp1, (hb3.block bf hf1.lt).trans hf1, ⟨Nat.zero_le _, A0, c0, hn3, hc0, HC.out⟩, hb1.trans (hb3.mono hb1.size), ?_⟩
    have := HORD.out
    omega
  try rw [hw3]
  try rw [hg]
  clear hw3 hg HQ HORD HC
  have HG : Hid (w.heap.size ≤ g) := by have := S0.ord; show _ ≤ _; omega
  have HS := Lib.hid S0
  clear S0
  by_cases hk : 0 + 1 ≤ l0.length
  case neg =>
    have HX : Hid (¬ rdOk l0) := fun hok => by have := hok.1; omega
    have HT := Lib.hid (rbyte_no w g l0 (0) _ HS.out.rd (by omega))
    clear hk
    go_wp2_with fail
    refine HT.out.mono ?_
    rintro e w4 ⟨rfl, rfl⟩
    go_wp2_with fail
    exact prd_panic HS.out.pk HS.out.fl HS.out.be HS.out.ord rfl rfl (fun W' hW => HPAN.out HX.out _ _ ⟨rfl, hW⟩)
  have HT := Lib.hid (rbyte_ok w g l0 (0) _ HS.out.rd HS.out.be HG.out (by omega) HBY.out hlen)
  have HK := Lib.hid hk
  clear hk
  go_wp2_with fail
  refine HT.out.mono ?_
  rintro e w4 ⟨rfl, hr, ho⟩
  have HS2 := Lib.hid (HS.out.one ho hr)
  clear hr ho HT HS HK
  have HS := HS2
  clear HS2
  have y0 := (blk_cell HS.out.pk 0).trans rfl
  have z0 := blk_frozen HS.out.pk 0
  go_upto_region 4 with fail
  clear y0 z0
  have HS2 := Lib.hid (HS.out.put (cs' := #[.int .i64 (bA l0 0), .int .u32 0, .int .i64 0, .int .i64 0, .int .u32 0, .int .u32 0, .int .u32 0, .int .u32 0, .slice none 0 0, .slice none 0 0]) 0 (.int .i64 (bA l0 0)) rfl)
  obtain ⟨w5, hw5⟩ : ∃ W, w4.setCell ⟨bp, 0, none⟩ (.int .i64 (bA l0 0)) = W := ⟨_, rfl⟩
  rw [hw5] at HS2
  try rw [hw5]
  clear hw5 HS
  have HS := HS2
  clear HS2
  -- @ethernet
  by_cases hk : 1 + 1 ≤ l0.length
  case neg =>
    have HX : Hid (¬ rdOk l0) := fun hok => by have := hok.1; omega
    have HT := Lib.hid (rbyte_no w g l0 (1) _ HS.out.rd (by omega))
    clear hk
    go_wp2_with fail
    refine HT.out.mono ?_
    rintro e w6 ⟨rfl, rfl⟩
    go_wp2_with fail
    exact prd_panic HS.out.pk HS.out.fl HS.out.be HS.out.ord rfl rfl (fun W' hW => HPAN.out HX.out _ _ ⟨rfl, hW⟩)
  have HT := Lib.hid (rbyte_ok w g l0 (1) _ HS.out.rd HS.out.be HG.out (by omega) HBY.out hlen)
  have HK := Lib.hid hk
  clear hk
  go_wp2_with fail
  refine HT.out.mono ?_
  rintro e w6 ⟨rfl, hr, ho⟩
  have HS2 := Lib.hid (HS.out.one ho hr)
  clear hr ho HT HS HK
  have HS := HS2
  clear HS2
  by_cases hq : bA l0 1 = 1
  case neg =>
    have q0 : (bA l0 1 == 1) = false := beq_eq_false_iff_ne.2 hq
    have HX : Hid (¬ rdOk l0) := fun hok => hq (hok.2.1)
    clear hq
    go_wp2_with fail
    refine (must_no _).mono ?_
    rintro e w7 ⟨rfl, rfl⟩
    go_wp2_with fail
    exact prd_panic HS.out.pk HS.out.fl HS.out.be HS.out.ord rfl rfl (fun W' hW => HPAN.out HX.out _ _ ⟨rfl, hW⟩)
  have q0 : (bA l0 1 == 1) = true := beq_iff_eq.2 hq
  have HQ := Lib.hid hq
  clear hq
  go_wp2_with fail
  refine (must_yes _).mono ?_
  rintro e w8 ⟨rfl, rfl⟩
  clear q0
  have HQ1 := HQ
  clear HQ
  -- @n
  by_cases hk : 2 + 1 ≤ l0.length
  case neg =>
    have HX : Hid (¬ rdOk l0) := fun hok => by have := hok.1; omega
    have HT := Lib.hid (rbyte_no w g l0 (2) _ HS.out.rd (by omega))
    clear hk
    go_wp2_with fail
    refine HT.out.mono ?_
    rintro e w9 ⟨rfl, rfl⟩
    go_wp2_with fail
    exact prd_panic HS.out.pk HS.out.fl HS.out.be HS.out.ord rfl rfl (fun W' hW => HPAN.out HX.out _ _ ⟨rfl, hW⟩)
  have HT := Lib.hid (rbyte_ok w g l0 (2) _ HS.out.rd HS.out.be HG.out (by omega) HBY.out hlen)
  have hn2 := bA_in HBY.out 2
  obtain ⟨n, hn⟩ : ∃ n : Nat, bA l0 2 = (n : Int) := ⟨(bA l0 2).toNat, by omega⟩
  have hn255 : (n : Int) ≤ 255 := by omega
  rw [hn] at HT
  have HN := Lib.hid hn
  clear hn hn2
  have HK := Lib.hid hk
  clear hk
  go_wp2_with fail
  refine HT.out.mono ?_
  rintro e w9 ⟨rfl, hr, ho⟩
  have HS2 := Lib.hid (HS.out.one ho hr)
  clear hr ho HT HS HK
  have HS := HS2
  clear HS2
  by_cases h16 : n ≤ 16
  case neg =>
    have p1 : ((n : Int) ≤ 16) = False := eq_false (by omega)
    have p2 : (n ≤ 16) = False := eq_false h16
    have HX : Hid (¬ rdOk l0) := fun hok => by have h1 := hok.2.2.1; have h2 := HN.out; omega
    clear h16
    go_wp2_with fail
    refine (must_no _).mono ?_
    rintro e w10 ⟨rfl, rfl⟩
    go_wp2_with fail
    exact prd_panic HS.out.pk HS.out.fl HS.out.be HS.out.ord rfl rfl (fun W' hW => HPAN.out HX.out _ _ ⟨rfl, hW⟩)
  have p1 : ((n : Int) ≤ 16) = True := eq_true (by omega)
  have p2 : (n ≤ 16) = True := eq_true h16
  by_cases hk : 3 + 1 ≤ l0.length
  case neg =>
    have HX : Hid (¬ rdOk l0) := fun hok => by have := hok.1; omega
    have HT := Lib.hid (rbyte_no w g l0 (3) _ HS.out.rd (by omega))
    clear hk
    go_wp2_with fail
    refine HT.out.mono ?_
    rintro e w11 ⟨rfl, rfl⟩
    go_wp2_with fail
    exact prd_panic HS.out.pk HS.out.fl HS.out.be HS.out.ord rfl rfl (fun W' hW => HPAN.out HX.out _ _ ⟨rfl, hW⟩)
  have HT := Lib.hid (rbyte_ok w g l0 (3) _ HS.out.rd HS.out.be HG.out (by omega) HBY.out hlen)
  have HK := Lib.hid hk
  clear hk
  go_wp2_with fail
  refine HT.out.mono ?_
  rintro e w11 ⟨rfl, hr, ho⟩
  have HS2 := Lib.hid (HS.out.one ho hr)
  clear hr ho HT HS HK
  have HS := HS2
  clear HS2
  by_cases hq : bA l0 3 = 0
  case neg =>
    have q0 : (bA l0 3 == 0) = false := beq_eq_false_iff_ne.2 hq
    have HX : Hid (¬ rdOk l0) := fun hok => hq (hok.2.2.2.1)
    clear hq
    go_wp2_with fail
    refine (must_no _).mono ?_
    rintro e w12 ⟨rfl, rfl⟩
    go_wp2_with fail
    exact prd_panic HS.out.pk HS.out.fl HS.out.be HS.out.ord rfl rfl (fun W' hW => HPAN.out HX.out _ _ ⟨rfl, hW⟩)
  have q0 : (bA l0 3 == 0) = true := beq_iff_eq.2 hq
  have HQ := Lib.hid hq
  clear hq
  go_wp2_with fail
  refine (must_yes _).mono ?_
  rintro e w13 ⟨rfl, rfl⟩
  clear q0
  have HQ3 := HQ
  clear HQ p1 p2
  -- @Flags
  by_cases hk : 4 + 4 ≤ l0.length
  case neg =>
    have HX : Hid (¬ rdOk l0) := fun hok => by have := hok.1; omega
    have HT := Lib.hid (rlong_no w g l0 (4) _ HS.out.rd HS.out.be HG.out (by omega) HBY.out hlen)
    clear hk
    go_wp2_with fail
    refine HT.out.mono ?_
    rintro e w14 ⟨rfl, ho⟩
    have HO := Lib.hid ho
    clear ho
    go_wp2_with fail
    have hso := HS.out
    have hoo := HO.out
    have hor := hso.ord
    exact prd_panic ((hoo.block bp (blk_lt hso.pk) (by omega)).trans hso.pk) ((hoo.block bf hso.fl.lt (by omega)).trans hso.fl) (hoo.below hso.be HG.out) hor rfl rfl (fun W' hW => HPAN.out HX.out _ _ ⟨rfl, hW⟩)
  have HT := Lib.hid (rlong_ok w g l0 (4) _ HS.out.rd HS.out.be HG.out (by omega) HBY.out hlen)
  have HK := Lib.hid hk
  clear hk
  go_wp2_with fail
  refine HT.out.mono ?_
  rintro e w14 ⟨rfl, hr, ho⟩
  have HS2 := Lib.hid (HS.out.one ho hr)
  clear hr ho HT HS HK
  have HS := HS2
  clear HS2
  by_cases hk : 8 + 2 ≤ l0.length
  case neg =>
    have HX : Hid (¬ rdOk l0) := fun hok => by have := hok.1; omega
    have HT := Lib.hid (rshort_no w g l0 (8) _ HS.out.rd (by omega))
    clear hk
    go_wp2_with fail
    refine HT.out.mono ?_
    rintro e w15 ⟨rfl, rfl⟩
    go_wp2_with fail
    exact prd_panic HS.out.pk HS.out.fl HS.out.be HS.out.ord rfl rfl (fun W' hW => HPAN.out HX.out _ _ ⟨rfl, hW⟩)
  have HT := Lib.hid (rshort_ok w g l0 (8) _ HS.out.rd HS.out.be HG.out (by omega) HBY.out hlen)
  have HK := Lib.hid hk
  clear hk
  go_wp2_with fail
  refine HT.out.mono ?_
  rintro e w15 ⟨rfl, hr, ho⟩
  have HS2 := Lib.hid (HS.out.one ho hr)
  clear hr ho HT HS HK
  have HS := HS2
  clear HS2
  by_cases hk : 10 + 2 ≤ l0.length
  case neg =>
    have HX : Hid (¬ rdOk l0) := fun hok => by have := hok.1; omega
    have HT := Lib.hid (rshort_no w g l0 (10) _ HS.out.rd (by omega))
    clear hk
    go_wp2_with fail
    refine HT.out.mono ?_
    rintro e w16 ⟨rfl, rfl⟩
    go_wp2_with fail
    exact prd_panic HS.out.pk HS.out.fl HS.out.be HS.out.ord rfl rfl (fun W' hW => HPAN.out HX.out _ _ ⟨rfl, hW⟩)
  have HT := Lib.hid (rshort_ok w g l0 (10) _ HS.out.rd HS.out.be HG.out (by omega) HBY.out hlen)
  have HK := Lib.hid hk
  clear hk
  go_wp2_with fail
  refine HT.out.mono ?_
  rintro e w16 ⟨rfl, hr, ho⟩
  have HS2 := Lib.hid (HS.out.one ho hr)
  clear hr ho HT HS HK
  have HS := HS2
  clear HS2
  have y1 := (blk_cell HS.out.pk 1).trans rfl
  have z1 := blk_frozen HS.out.pk 1
  have y2 : ∀ u, (w16.setCell ⟨bp, 1, none⟩ u).cell? ⟨bp, 2, none⟩ = some (.int .i64 0) := fun u => (blk_cell (blk_set HS.out.pk 1 u) 2).trans rfl
  have z2 : ∀ u, (w16.setCell ⟨bp, 1, none⟩ u).frozen? ⟨bp, 2, none⟩ = false := fun u => blk_frozen (blk_set HS.out.pk 1 u) 2
  have y3 : ∀ u v, ((w16.setCell ⟨bp, 1, none⟩ u).setCell ⟨bp, 2, none⟩ v).cell? ⟨bp, 3, none⟩ = some (.int .i64 0) := fun u v => (blk_cell (blk_set (blk_set HS.out.pk 1 u) 2 v) 3).trans rfl
  have z3 : ∀ u v, ((w16.setCell ⟨bp, 1, none⟩ u).setCell ⟨bp, 2, none⟩ v).frozen? ⟨bp, 3, none⟩ = false := fun u v => blk_frozen (blk_set (blk_set HS.out.pk 1 u) 2 v) 3
  go_upto_region 8 with fail
  clear y1 z1 y2 z2 y3 z3
  have HS2 := Lib.hid (((HS.out.put 1 (.int .u32 (lA l0 4)) rfl).put 2 (.int .i64 (sA l0 8)) rfl).put (cs' := #[.int .i64 (bA l0 0), .int .u32 (lA l0 4), .int .i64 (sA l0 8), .int .i64 (sA l0 10), .int .u32 0, .int .u32 0, .int .u32 0, .int .u32 0, .slice none 0 0, .slice none 0 0]) 3 (.int .i64 (sA l0 10)) rfl)
  obtain ⟨w17, hw17⟩ : ∃ W, ((w16.setCell ⟨bp, 1, none⟩ (.int .u32 (lA l0 4))).setCell ⟨bp, 2, none⟩ (.int .i64 (sA l0 8))).setCell ⟨bp, 3, none⟩ (.int .i64 (sA l0 10)) = W := ⟨_, rfl⟩
  rw [hw17] at HS2
  try rw [hw17]
  clear hw17 HS
  have HS := HS2
  clear HS2
  -- @addresses
  go_wp2_with fail
  go_loopw [36] (fun i wr => ∃ k : Nat, k ≤ 4 ∧ i = .int .i64 k ∧ Hid (PrSt w bp bf g l0 (adC l0 k) (12 + 4 * k) wr)) (fun i _ => 4 - (intOf i).toNat)
  case atStart => exact ⟨0, Nat.zero_le _, rfl, HS⟩
  case round =>
    clear HS
    obtain ⟨k, hk4, hv, HS⟩ := hrel
    obtain rfl | rfl | rfl | rfl | rfl : k = 0 ∨ k = 1 ∨ k = 2 ∨ k = 3 ∨ k = 4 := by omega
    · have HS1 : Hid (PrSt w bp bf g l0 #[.int .i64 (bA l0 0), .int .u32 (lA l0 4), .int .i64 (sA l0 8), .int .i64 (sA l0 10), .int .u32 0, .int .u32 0, .int .u32 0, .int .u32 0, .slice none 0 0, .slice none 0 0] 12 wr) := HS
      clear HS
      have HS := HS1
      clear HS1 hk4
      replace hv : u36 = .int .i64 0 := hv
      subst hv
      have hix : ∀ W : World, (Instr.index 80 (.agg #[.pointer (some ⟨bp, 4, none⟩), .pointer (some ⟨bp, 5, none⟩), .pointer (some ⟨bp, 6, none⟩), .pointer (some ⟨bp, 7, none⟩)]) (.int .i64 0)).run Tryd.prog W = .ok (.pointer (some ⟨bp, 4, none⟩)) W := fun W => idxp _ _ _ _ 0 (by decide) W
      by_cases hk : 12 + 4 ≤ l0.length
      case neg =>
        have HX : Hid (¬ rdOk l0) := fun hok => by have := hok.1; omega
        have HT := Lib.hid (rlong_no w g l0 (12) _ HS.out.rd HS.out.be HG.out (by omega) HBY.out hlen)
        clear hk
        go_wp2_with fail
        refine HT.out.mono ?_
        rintro e w18 ⟨rfl, ho⟩
        have HO := Lib.hid ho
        clear ho
        go_wp2_with fail
        have hso := HS.out
        have hoo := HO.out
        have hor := hso.ord
        exact prd_panic ((hoo.block bp (blk_lt hso.pk) (by omega)).trans hso.pk) ((hoo.block bf hso.fl.lt (by omega)).trans hso.fl) (hoo.below hso.be HG.out) hor rfl rfl (fun W' hW => HPAN.out HX.out _ _ ⟨rfl, hW⟩)
      have HT := Lib.hid (rlong_ok w g l0 (12) _ HS.out.rd HS.out.be HG.out (by omega) HBY.out hlen)
      have HK := Lib.hid hk
      clear hk
      go_wp2_with fail
      refine HT.out.mono ?_
      rintro e w18 ⟨rfl, hr, ho⟩
      have HS2 := Lib.hid (HS.out.one ho hr)
      clear hr ho HT HS HK
      have HS := HS2
      clear HS2
      have y4 := (blk_cell HS.out.pk 4).trans rfl
      have z4 := blk_frozen HS.out.pk 4
      go_wp2_with fail
      clear y4 z4 hix
      have HS2 := Lib.hid (HS.out.put (cs' := #[.int .i64 (bA l0 0), .int .u32 (lA l0 4), .int .i64 (sA l0 8), .int .i64 (sA l0 10), .int .u32 (lA l0 12), .int .u32 0, .int .u32 0, .int .u32 0, .slice none 0 0, .slice none 0 0]) 4 (.int .u32 (lA l0 12)) rfl)
      obtain ⟨w19, hw19⟩ : ∃ W, w18.setCell ⟨bp, 4, none⟩ (.int .u32 (lA l0 12)) = W := ⟨_, rfl⟩
      rw [hw19] at HS2
      try rw [hw19]
      clear hw19 HS
      have HS := HS2
      clear HS2
      go_roundw
      case rel =>
        first
          | exact ⟨1, by omega, rfl, HS⟩
          | ((repeat apply Exists.intro); exact ⟨⟨1, by omega, rfl, HS⟩, rfl⟩)
          | ((repeat apply Exists.intro); exact ⟨⟨1, by omega, rfl, HS⟩, rfl, rfl⟩)
          | ((repeat apply Exists.intro); exact ⟨⟨1, by omega, rfl, HS⟩, rfl, rfl, rfl⟩)
          | ((repeat apply Exists.intro); exact ⟨⟨1, by omega, rfl, HS⟩, rfl, rfl, rfl, rfl⟩)
          | ((repeat apply Exists.intro); exact ⟨⟨1, by omega, rfl, HS⟩, rfl, rfl, rfl, rfl, rfl⟩)
      case measure => simp [intOf]
    · have HS1 : Hid (PrSt w bp bf g l0 #[.int .i64 (bA l0 0), .int .u32 (lA l0 4), .int .i64 (sA l0 8), .int .i64 (sA l0 10), .int .u32 (lA l0 12), .int .u32 0, .int .u32 0, .int .u32 0, .slice none 0 0, .slice none 0 0] 16 wr) := HS
      clear HS
      have HS := HS1
      clear HS1 hk4
      replace hv : u36 = .int .i64 1 := hv
      subst hv
      have hix : ∀ W : World, (Instr.index 80 (.agg #[.pointer (some ⟨bp, 4, none⟩), .pointer (some ⟨bp, 5, none⟩), .pointer (some ⟨bp, 6, none⟩), .pointer (some ⟨bp, 7, none⟩)]) (.int .i64 1)).run Tryd.prog W = .ok (.pointer (some ⟨bp, 5, none⟩)) W := fun W => idxp _ _ _ _ 1 (by decide) W
      by_cases hk : 16 + 4 ≤ l0.length
      case neg =>
        have HX : Hid (¬ rdOk l0) := fun hok => by have := hok.1; omega
        have HT := Lib.hid (rlong_no w g l0 (16) _ HS.out.rd HS.out.be HG.out (by omega) HBY.out hlen)
        clear hk
        go_wp2_with fail
        refine HT.out.mono ?_
        rintro e w20 ⟨rfl, ho⟩
        have HO := Lib.hid ho
        clear ho
        go_wp2_with fail
        have hso := HS.out
        have hoo := HO.out
        have hor := hso.ord
        exact prd_panic ((hoo.block bp (blk_lt hso.pk) (by omega)).trans hso.pk) ((hoo.block bf hso.fl.lt (by omega)).trans hso.fl) (hoo.below hso.be HG.out) hor rfl rfl (fun W' hW => HPAN.out HX.out _ _ ⟨rfl, hW⟩)
      have HT := Lib.hid (rlong_ok w g l0 (16) _ HS.out.rd HS.out.be HG.out (by omega) HBY.out hlen)
      have HK := Lib.hid hk
      clear hk
      go_wp2_with fail
      refine HT.out.mono ?_
      rintro e w20 ⟨rfl, hr, ho⟩
      have HS2 := Lib.hid (HS.out.one ho hr)
      clear hr ho HT HS HK
      have HS := HS2
      clear HS2
      have y4 := (blk_cell HS.out.pk 5).trans rfl
      have z4 := blk_frozen HS.out.pk 5
      go_wp2_with fail
      clear y4 z4 hix
      have HS2 := Lib.hid (HS.out.put (cs' := #[.int .i64 (bA l0 0), .int .u32 (lA l0 4), .int .i64 (sA l0 8), .int .i64 (sA l0 10), .int .u32 (lA l0 12), .int .u32 (lA l0 16), .int .u32 0, .int .u32 0, .slice none 0 0, .slice none 0 0]) 5 (.int .u32 (lA l0 16)) rfl)
      obtain ⟨w21, hw21⟩ : ∃ W, w20.setCell ⟨bp, 5, none⟩ (.int .u32 (lA l0 16)) = W := ⟨_, rfl⟩
      rw [hw21] at HS2
      try rw [hw21]
      clear hw21 HS
      have HS := HS2
      clear HS2
      go_roundw
      case rel =>
        first
          | exact ⟨2, by omega, rfl, HS⟩
          | ((repeat apply Exists.intro); exact ⟨⟨2, by omega, rfl, HS⟩, rfl⟩)
          | ((repeat apply Exists.intro); exact ⟨⟨2, by omega, rfl, HS⟩, rfl, rfl⟩)
          | ((repeat apply Exists.intro); exact ⟨⟨2, by omega, rfl, HS⟩, rfl, rfl, rfl⟩)
          | ((repeat apply Exists.intro); exact ⟨⟨2, by omega, rfl, HS⟩, rfl, rfl, rfl, rfl⟩)
          | ((repeat apply Exists.intro); exact ⟨⟨2, by omega, rfl, HS⟩, rfl, rfl, rfl, rfl, rfl⟩)
      case measure => simp [intOf]
    · have HS1 : Hid (PrSt w bp bf g l0 #[.int .i64 (bA l0 0), .int .u32 (lA l0 4), .int .i64 (sA l0 8), .int .i64 (sA l0 10), .int .u32 (lA l0 12), .int .u32 (lA l0 16), .int .u32 0, .int .u32 0, .slice none 0 0, .slice none 0 0] 20 wr) := HS
      clear HS
      have HS := HS1
      clear HS1 hk4
      replace hv : u36 = .int .i64 2 := hv
      subst hv
      have hix : ∀ W : World, (Instr.index 80 (.agg #[.pointer (some ⟨bp, 4, none⟩), .pointer (some ⟨bp, 5, none⟩), .pointer (some ⟨bp, 6, none⟩), .pointer (some ⟨bp, 7, none⟩)]) (.int .i64 2)).run Tryd.prog W = .ok (.pointer (some ⟨bp, 6, none⟩)) W := fun W => idxp _ _ _ _ 2 (by decide) W
      by_cases hk : 20 + 4 ≤ l0.length
      case neg =>
        have HX : Hid (¬ rdOk l0) := fun hok => by have := hok.1; omega
        have HT := Lib.hid (rlong_no w g l0 (20) _ HS.out.rd HS.out.be HG.out (by omega) HBY.out hlen)
        clear hk
        go_wp2_with fail
        refine HT.out.mono ?_
        rintro e w22 ⟨rfl, ho⟩
        have HO := Lib.hid ho
        clear ho
        go_wp2_with fail
        have hso := HS.out
        have hoo := HO.out
        have hor := hso.ord
        exact prd_panic ((hoo.block bp (blk_lt hso.pk) (by omega)).trans hso.pk) ((hoo.block bf hso.fl.lt (by omega)).trans hso.fl) (hoo.below hso.be HG.out) hor rfl rfl (fun W' hW => HPAN.out HX.out _ _ ⟨rfl, hW⟩)
      have HT := Lib.hid (rlong_ok w g l0 (20) _ HS.out.rd HS.out.be HG.out (by omega) HBY.out hlen)
      have HK := Lib.hid hk
      clear hk
      go_wp2_with fail
      refine HT.out.mono ?_
      rintro e w22 ⟨rfl, hr, ho⟩
      have HS2 := Lib.hid (HS.out.one ho hr)
      clear hr ho HT HS HK
      have HS := HS2
      clear HS2
      have y4 := (blk_cell HS.out.pk 6).trans rfl
      have z4 := blk_frozen HS.out.pk 6
      go_wp2_with fail
      clear y4 z4 hix
      have HS2 := Lib.hid (HS.out.put (cs' := #[.int .i64 (bA l0 0), .int .u32 (lA l0 4), .int .i64 (sA l0 8), .int .i64 (sA l0 10), .int .u32 (lA l0 12), .int .u32 (lA l0 16), .int .u32 (lA l0 20), .int .u32 0, .slice none 0 0, .slice none 0 0]) 6 (.int .u32 (lA l0 20)) rfl)
      obtain ⟨w23, hw23⟩ : ∃ W, w22.setCell ⟨bp, 6, none⟩ (.int .u32 (lA l0 20)) = W := ⟨_, rfl⟩
      rw [hw23] at HS2
      try rw [hw23]
      clear hw23 HS
      have HS := HS2
      clear HS2
      go_roundw
      case rel =>
        first
          | exact ⟨3, by omega, rfl, HS⟩
          | ((repeat apply Exists.intro); exact ⟨⟨3, by omega, rfl, HS⟩, rfl⟩)
          | ((repeat apply Exists.intro); exact ⟨⟨3, by omega, rfl, HS⟩, rfl, rfl⟩)
          | ((repeat apply Exists.intro); exact ⟨⟨3, by omega, rfl, HS⟩, rfl, rfl, rfl⟩)
          | ((repeat apply Exists.intro); exact ⟨⟨3, by omega, rfl, HS⟩, rfl, rfl, rfl, rfl⟩)
          | ((repeat apply Exists.intro); exact ⟨⟨3, by omega, rfl, HS⟩, rfl, rfl, rfl, rfl, rfl⟩)
      case measure => simp [intOf]
    · have HS1 : Hid (PrSt w bp bf g l0 #[.int .i64 (bA l0 0), .int .u32 (lA l0 4), .int .i64 (sA l0 8), .int .i64 (sA l0 10), .int .u32 (lA l0 12), .int .u32 (lA l0 16), .int .u32 (lA l0 20), .int .u32 0, .slice none 0 0, .slice none 0 0] 24 wr) := HS
      clear HS
      have HS := HS1
      clear HS1 hk4
      replace hv : u36 = .int .i64 3 := hv
      subst hv
      have hix : ∀ W : World, (Instr.index 80 (.agg #[.pointer (some ⟨bp, 4, none⟩), .pointer (some ⟨bp, 5, none⟩), .pointer (some ⟨bp, 6, none⟩), .pointer (some ⟨bp, 7, none⟩)]) (.int .i64 3)).run Tryd.prog W = .ok (.pointer (some ⟨bp, 7, none⟩)) W := fun W => idxp _ _ _ _ 3 (by decide) W
      by_cases hk : 24 + 4 ≤ l0.length
      case neg =>
        have HX : Hid (¬ rdOk l0) := fun hok => by have := hok.1; omega
        have HT := Lib.hid (rlong_no w g l0 (24) _ HS.out.rd HS.out.be HG.out (by omega) HBY.out hlen)
        clear hk
        go_wp2_with fail
        refine HT.out.mono ?_
        rintro e w24 ⟨rfl, ho⟩
        have HO := Lib.hid ho
        clear ho
        go_wp2_with fail
        have hso := HS.out
        have hoo := HO.out
        have hor := hso.ord
        exact prd_panic ((hoo.block bp (blk_lt hso.pk) (by omega)).trans hso.pk) ((hoo.block bf hso.fl.lt (by omega)).trans hso.fl) (hoo.below hso.be HG.out) hor rfl rfl (fun W' hW => HPAN.out HX.out _ _ ⟨rfl, hW⟩)
      have HT := Lib.hid (rlong_ok w g l0 (24) _ HS.out.rd HS.out.be HG.out (by omega) HBY.out hlen)
      have HK := Lib.hid hk
      clear hk
      go_wp2_with fail
      refine HT.out.mono ?_
      rintro e w24 ⟨rfl, hr, ho⟩
      have HS2 := Lib.hid (HS.out.one ho hr)
      clear hr ho HT HS HK
      have HS := HS2
      clear HS2
      have y4 := (blk_cell HS.out.pk 7).trans rfl
      have z4 := blk_frozen HS.out.pk 7
      go_wp2_with fail
      clear y4 z4 hix
      have HS2 := Lib.hid (HS.out.put (cs' := #[.int .i64 (bA l0 0), .int .u32 (lA l0 4), .int .i64 (sA l0 8), .int .i64 (sA l0 10), .int .u32 (lA l0 12), .int .u32 (lA l0 16), .int .u32 (lA l0 20), .int .u32 (lA l0 24), .slice none 0 0, .slice none 0 0]) 7 (.int .u32 (lA l0 24)) rfl)
      obtain ⟨w25, hw25⟩ : ∃ W, w24.setCell ⟨bp, 7, none⟩ (.int .u32 (lA l0 24)) = W := ⟨_, rfl⟩
      rw [hw25] at HS2
      try rw [hw25]
      clear hw25 HS
      have HS := HS2
      clear HS2
      go_roundw
      case rel =>
        first
          | exact ⟨4, by omega, rfl, HS⟩
          | ((repeat apply Exists.intro); exact ⟨⟨4, by omega, rfl, HS⟩, rfl⟩)
          | ((repeat apply Exists.intro); exact ⟨⟨4, by omega, rfl, HS⟩, rfl, rfl⟩)
          | ((repeat apply Exists.intro); exact ⟨⟨4, by omega, rfl, HS⟩, rfl, rfl, rfl⟩)
          | ((repeat apply Exists.intro); exact ⟨⟨4, by omega, rfl, HS⟩, rfl, rfl, rfl, rfl⟩)
          | ((repeat apply Exists.intro); exact ⟨⟨4, by omega, rfl, HS⟩, rfl, rfl, rfl, rfl, rfl⟩)
      case measure => simp [intOf]
    · have HS1 : Hid (PrSt w bp bf g l0 #[.int .i64 (bA l0 0), .int .u32 (lA l0 4), .int .i64 (sA l0 8), .int .i64 (sA l0 10), .int .u32 (lA l0 12), .int .u32 (lA l0 16), .int .u32 (lA l0 20), .int .u32 (lA l0 24), .slice none 0 0, .slice none 0 0] 28 wr) := HS
      clear HS
      have HS := HS1
      clear HS1 hk4
      replace hv : u36 = .int .i64 4 := hv
      subst hv
      -- @address
      by_cases hk : 28 + n ≤ l0.length
      case neg =>
        have HX : Hid (¬ rdOk l0) := fun hok => by have := hok.1; omega
        have HT := Lib.hid (rtake_no w g l0 28 n _ HS.out.rd (by omega))
        clear hk
        go_wp2_with fail
        refine HT.out.mono ?_
        rintro e w26 ⟨rfl, rfl⟩
        go_wp2_with fail
        exact prd_panic HS.out.pk HS.out.fl HS.out.be HS.out.ord rfl rfl (fun W' hW => HPAN.out HX.out _ _ ⟨rfl, hW⟩)
      have HT := Lib.hid (rtake_ok w g l0 28 n _ HS.out.rd hk hlen)
      have HXL : Hid (((l0.drop 28).take n).length = n) := by show _ = _; rw [List.length_take, List.length_drop]; omega
      clear hk
      go_wp2_with fail
      refine HT.out.mono ?_
      rintro e w27 ⟨⟨Ah, ch, rfl, hch, hCh⟩, hr, ho⟩
      have HS2 := Lib.hid (HS.out.one ho hr)
      have HCH := Lib.hid hCh
      clear hr ho HT HS hCh
      have HS := HS2
      clear HS2
      have HCL : Hid (Calls Tryd.prog 17 #[.slice Ah n ch] w27 fun e w' => ∃ v0_ : Value, e = .returned v0_ ∧ Kd.R (Kd.int .u8) 5 w' w27.heap.size (fun _ => True) v0_ ((l0.drop 28).take n) ∧ Below w27.heap.size w27 w') := by
        have hC0 : (Kd.int .u8).C w Ah ((l0.drop 28).take n).length ((l0.drop 28).take n) := by rw [HXL.out]; exact HCH.out
        have hC := Kd.C_below hC0 HS.out.be
        have := clone_calls Ah ch ((l0.drop 28).take n) w27 hC (by rw [HXL.out]; exact hch) (by rw [HXL.out]; omega)
        rwa [HXL.out] at this
      have HVB : Hid (w.heap.size ≤ w27.heap.size) := HS.out.be.size
      go_wp2_with fail
      refine HCL.out.mono ?_
      rintro e w28 ⟨v5, rfl, hv5, hb5⟩
      obtain ⟨A5, c5, rfl⟩ := Kd.R_slice hv5
      have HS2 := Lib.hid (HS.out.grow hb5)
      have HV := Lib.hid (Kd.R_tight rfl hv5)
      have HVN : Hid (∀ k, (Value.slice A5 ((l0.drop 28).take n).length c5).ownBlock = some k → g < k ∧ k < w28.heap.size) := fun k hk => ⟨Nat.lt_of_lt_of_le HS.out.rd.lt (Kd.R_base hv5 k hk), Kd.R_lt hv5 k hk⟩
      clear hv5 hb5 HS HCL
      have HS := HS2
      clear HS2
      obtain ⟨xh, hxh⟩ : ∃ xh, xh = (l0.drop 28).take n := ⟨_, rfl⟩
      rw [← hxh] at HV HVN HXL ⊢
      have HXH := Lib.hid hxh
      clear hxh
      have y8 := (blk_cell HS.out.pk 8).trans rfl
      have z8 := blk_frozen HS.out.pk 8
      go_upto_region 14 with fail
      clear y8 z8
      have HV2 := Lib.hid (Kd.R_step (w1 := w28.setCell ⟨bp, 8, none⟩ (.slice A5 xh.length c5)) HV.out (fun k hk hlt => by have hkg := (HVN.out k hk.symm).1; have hor := HS.out.ord; exact Below.heap_setCell _ _ _ k (show k ≠ bp by omega)))
      have HS2 := Lib.hid (HS.out.put (cs' := #[.int .i64 (bA l0 0), .int .u32 (lA l0 4), .int .i64 (sA l0 8), .int .i64 (sA l0 10), .int .u32 (lA l0 12), .int .u32 (lA l0 16), .int .u32 (lA l0 20), .int .u32 (lA l0 24), .slice A5 xh.length c5, .slice none 0 0]) 8 (.slice A5 xh.length c5) rfl)
      obtain ⟨w29, hw29⟩ : ∃ W, w28.setCell ⟨bp, 8, none⟩ (.slice A5 xh.length c5) = W := ⟨_, rfl⟩
      rw [hw29] at HS2 HV2
      try rw [hw29]
      clear hw29 HS HV
      have HS := HS2
      have HV := HV2
      clear HS2 HV2
      -- @pad
      have e1 : IntKind.i64.wrap (16 - (n : Int)) = 16 - (n : Int) := IntWalk.i64_in _ (by omega)
      obtain ⟨m, hm⟩ : ∃ m, m = 208 - n := ⟨_, rfl⟩
      have hmn : n + m = 208 := by omega
      have e2 : IntKind.i64.wrap (16 - (n : Int) + 192) = (m : Int) := by rw [IntWalk.i64_in _ (by omega)]; omega
      have e3 : 16 - (n : Int) + 192 = (m : Int) := by omega
      have HMN := Lib.hid hmn
      clear hm hmn
      by_cases hk : 28 + n + m ≤ l0.length
      case neg =>
        have HX : Hid (¬ rdOk l0) := fun hok => by have h1 := hok.1; have h2 := HMN.out; omega
        have HT := Lib.hid (rtake_no w g l0 (28 + n) m _ HS.out.rd (by omega))
        clear hk
        go_wp2_with fail
        refine HT.out.mono ?_
        rintro e w30 ⟨rfl, rfl⟩
        go_wp2_with fail
        exact prd_panic HS.out.pk HS.out.fl HS.out.be HS.out.ord rfl rfl (fun W' hW => HPAN.out HX.out _ _ ⟨rfl, hW⟩)
      have HT := Lib.hid (rtake_ok w g l0 (28 + n) m _ HS.out.rd hk hlen)
      have HXM : Hid (((l0.drop (28 + n)).take m).length = m) := by show _ = _; rw [List.length_take, List.length_drop]; omega
      clear hk
      go_wp2_with fail
      refine HT.out.mono ?_
      rintro e w31 ⟨⟨Ap, cp, rfl, hcp, hCp⟩, hr, ho⟩
      rw [show 28 + n + m = 236 from by have := HMN.out; omega] at hr
      have HV2 := Lib.hid (Kd.R_step HV.out (fun k hk hlt => by have hkg := (HVN.out k hk.symm).1; exact ho.block k hlt (by omega)))
      have HS2 := Lib.hid (HS.out.one ho hr)
      have HCP := Lib.hid hCp
      clear hr ho HT HS hCp HV
      have HS := HS2
      have HV := HV2
      clear HS2 HV2
      have HTR : Hid (Calls Tryd.prog 38 #[.slice Ap m cp, .string { data := #[0] }] w31 fun e w' => ∃ A' n' c', e = .returned (.slice A' n' c') ∧ (n' = 0 ↔ ∀ x ∈ (l0.drop (28 + n)).take m, x = 0) ∧ Below w31.heap.size w31 w') := by
        have hC0 : (Kd.int .u8).C w Ap ((l0.drop (28 + n)).take m).length ((l0.drop (28 + n)).take m) := by rw [HXM.out]; exact HCP.out
        have hC := Kd.C_below hC0 HS.out.be
        have := trim_calls Ap cp ((l0.drop (28 + n)).take m) w31 hC (by rw [HXM.out]; exact hcp)
        rwa [HXM.out] at this
      go_wp2_with fail
      refine HTR.out.mono ?_
      rintro e w32 ⟨At, nt, ct, rfl, hnt, hb6⟩
      have HV2 := Lib.hid (Kd.R_below HV.out hb6)
      have HS2 := Lib.hid (HS.out.grow hb6)
      have HNT := Lib.hid hnt
      clear hb6 HS HV hnt HTR e1 e2 e3
      have HS := HS2
      have HV := HV2
      clear HS2 HV2
      by_cases hz : nt = 0
      case neg =>
        have q0 : ((nt : Int) == 0) = false := beq_eq_false_iff_ne.2 (by omega)
        have q1 : (nt == 0) = false := beq_eq_false_iff_ne.2 hz
        have q2 : (nt = 0) = False := eq_false hz
        have HX : Hid (¬ rdOk l0) := fun hok => hz (HNT.out.2 (by have h1 := hok.2.2.2.2.1; have h2 := HMN.out; rw [HN.out, Int.toNat_natCast, show 208 - n = m from by omega] at h1; exact h1))
        clear hz
        go_wp2_with fail
        refine (must_no _).mono ?_
        rintro e w33 ⟨rfl, rfl⟩
        go_wp2_with fail
        exact prd_panic HS.out.pk HS.out.fl HS.out.be HS.out.ord rfl rfl (fun W' hW => HPAN.out HX.out _ _ ⟨rfl, hW⟩)
      subst hz
      have HZP := Lib.hid (HNT.out.1 rfl)
      clear HNT
      -- @cookie
      by_cases hk : 236 + 4 ≤ l0.length
      case neg =>
        have HX : Hid (¬ rdOk l0) := fun hok => by have := hok.1; omega
        have HT := Lib.hid (rlong_no w g l0 236 _ HS.out.rd HS.out.be HG.out (by omega) HBY.out hlen)
        clear hk
        go_wp2_with fail
        refine HT.out.mono ?_
        rintro e w34 ⟨rfl, ho⟩
        have HO := Lib.hid ho
        clear ho
        go_wp2_with fail
        have hso := HS.out
        have hoo := HO.out
        have hor := hso.ord
        exact prd_panic ((hoo.block bp (blk_lt hso.pk) (by omega)).trans hso.pk) ((hoo.block bf hso.fl.lt (by omega)).trans hso.fl) (hoo.below hso.be HG.out) hor rfl rfl (fun W' hW => HPAN.out HX.out _ _ ⟨rfl, hW⟩)
      have HT := Lib.hid (rlong_ok w g l0 236 _ HS.out.rd HS.out.be HG.out (by omega) HBY.out hlen)
      have HK := Lib.hid hk
      clear hk
      go_wp2_with fail
      refine HT.out.mono ?_
      rintro e w35 ⟨rfl, hr, ho⟩
      have HV2 := Lib.hid (Kd.R_step HV.out (fun k hk hlt => by have hkg := (HVN.out k hk.symm).1; exact ho.block k hlt (by omega)))
      have HS2 := Lib.hid (HS.out.one ho hr)
      clear hr ho HT HS HV
      have HS := HS2
      have HV := HV2
      clear HS2 HV2
      by_cases hq : lA l0 236 = 1669485411
      case neg =>
        have q0 : (lA l0 236 == 1669485411) = false := beq_eq_false_iff_ne.2 hq
        have HX : Hid (¬ rdOk l0) := fun hok => hq (hok.2.2.2.2.2.1)
        clear hq
        go_wp2_with fail
        refine (must_no _).mono ?_
        rintro e w36 ⟨rfl, rfl⟩
        go_wp2_with fail
        exact prd_panic HS.out.pk HS.out.fl HS.out.be HS.out.ord rfl rfl (fun W' hW => HPAN.out HX.out _ _ ⟨rfl, hW⟩)
      have q0 : (lA l0 236 == 1669485411) = true := beq_iff_eq.2 hq
      have HQ := Lib.hid hq
      clear hq
      go_wp2_with fail
      refine (must_yes _).mono ?_
      rintro e w37 ⟨rfl, rfl⟩
      clear q0
      have HQ6 := HQ
      clear HQ
      -- @options
      have hrd : RdAt w g l0 240 w37 := HS.out.rd
      obtain ⟨h240, Ao, co, hbo, hco, hCo⟩ := hrd
      obtain ⟨os, zo, hos⟩ : ∃ os zo, odR (l0.drop 240) = (os, zo) := ⟨_, _, rfl⟩
      have HDE : Hid (∀ no : Nat, no = (l0.drop 240).length → Calls Tryd.prog 39 #[.slice Ao no co] w37 fun e w' => ∃ v0_ : Value, e = .returned (.tuple #[v0_, .int .i64 zo]) ∧ Kd.S k53 53 w' w37.heap.size (fun _ => True) v0_ os ∧ Below w37.heap.size w37 w') := by
        rintro no rfl
        refine option_Decode.calls Ao co (l0.drop 240) os zo w37 (Kd.C_below hCo HS.out.be) hco ?_
        unfold option_Decode.f
        rw [if_pos ⟨fun x hx => HBY.out x (List.mem_of_mem_drop hx), by rw [List.length_drop]; omega⟩, hos]
      -- @mA
      have HSB : Hid (w.heap.size ≤ w37.heap.size) := HS.out.be.size
      obtain ⟨no, hno⟩ : ∃ no, no = (l0.drop 240).length := ⟨_, rfl⟩
      rw [← hno] at hbo
      have HDE2 := Lib.hid (HDE.out no hno)
      clear HDE hno
      have HDE := HDE2
      clear HDE2
      have y4 := hbo.cell
      have HOS := Lib.hid hos
      have HGL := Lib.hid HS.out.rd.lt
      clear hos hbo hco hCo
      -- @mB
      go_wp2_with fail
      -- @mC
      refine HDE.out.mono ?_
      rintro e w38 ⟨v9, rfl, hs9, hb9⟩
      obtain ⟨A9, c9, rfl⟩ := Kd.S_slice hs9
      have HV2 := Lib.hid (Kd.R_below HV.out hb9)
      have HVL : Hid (∀ k, (Value.slice A5 xh.length c5).ownBlock = some k → k < w37.heap.size) := fun k hk => Kd.R_lt HV.out k hk
      have HS2 := Lib.hid (HS.out.grow hb9)
      have HSO := Lib.hid (Kd.S_bound hs9)
      have HSOB : Hid (∀ k, (Value.slice A9 os.length c9).ownBlock = some k → True) := fun _ _ => trivial
      clear hs9 hb9 HS HV y4 HDE HSOB
      have HS := HS2
      have HV := HV2
      clear HS2 HV2
      -- @mD
      by_cases hq : zo = 0
      case neg =>
        have q0 : (zo == 0) = false := beq_eq_false_iff_ne.2 hq
        have HX : Hid (¬ rdOk l0) := fun hok => hq (by have h1 := hok.2.2.2.2.2.2; rw [HOS.out] at h1; exact h1)
        clear hq
        go_wp2_with fail
        refine (must_no _).mono ?_
        rintro e w39 ⟨rfl, rfl⟩
        go_wp2_with fail
        exact prd_panic HS.out.pk HS.out.fl HS.out.be HS.out.ord rfl rfl (fun W' hW => HPAN.out HX.out _ _ ⟨rfl, hW⟩)
      have q0 : (zo == 0) = true := beq_iff_eq.2 hq
      have HQ := Lib.hid hq
      clear hq
      go_wp2_with fail
      refine (must_yes _).mono ?_
      rintro e w40 ⟨rfl, rfl⟩
      clear q0
      -- @store
      have HQ7 := HQ
      clear HQ
      have y9 := (blk_cell HS.out.pk 9).trans rfl
      have z9 := blk_frozen HS.out.pk 9
      go_upto_region 18 with fail
      clear y9 z9
      have HV2 := Lib.hid (Kd.R_step (w1 := w40.setCell ⟨bp, 9, none⟩ (.slice A9 os.length c9)) HV.out (fun k hk hlt => by have hkg := (HVN.out k hk.symm).1; have hor := HS.out.ord; exact Below.heap_setCell _ _ _ k (show k ≠ bp by omega)))
      have HSO2 := Lib.hid (Kd.S_step (w1 := w40.setCell ⟨bp, 9, none⟩ (.slice A9 os.length c9)) HSO.out (fun k hk hlt => by have hor := HS.out.ord; have h1 := hk.2.1; have h2 := HGL.out; exact Below.heap_setCell _ _ _ k (show k ≠ bp by omega)))
      have HS2 := Lib.hid (HS.out.put (cs' := #[.int .i64 (bA l0 0), .int .u32 (lA l0 4), .int .i64 (sA l0 8), .int .i64 (sA l0 10), .int .u32 (lA l0 12), .int .u32 (lA l0 16), .int .u32 (lA l0 20), .int .u32 (lA l0 24), .slice A5 xh.length c5, .slice A9 os.length c9]) 9 (.slice A9 os.length c9) rfl)
      obtain ⟨w41, hw41⟩ : ∃ W, w40.setCell ⟨bp, 9, none⟩ (.slice A9 os.length c9) = W := ⟨_, rfl⟩
      rw [hw41] at HS2 HV2 HSO2
      try rw [hw41]
      clear hw41 HS HV HSO
      have HS := HS2
      have HV := HV2
      have HSO := HSO2
      clear HS2 HV2 HSO2
      -- @last
      have u0 := (blk_cell HS.out.pk 0).trans rfl
      have f0 := blk_frozen HS.out.pk 0
      have u1 := (blk_cell HS.out.pk 1).trans rfl
      have f1 := blk_frozen HS.out.pk 1
      have u2 := (blk_cell HS.out.pk 2).trans rfl
      have f2 := blk_frozen HS.out.pk 2
      have u3 := (blk_cell HS.out.pk 3).trans rfl
      have f3 := blk_frozen HS.out.pk 3
      have u4 := (blk_cell HS.out.pk 4).trans rfl
      have f4 := blk_frozen HS.out.pk 4
      have u5 := (blk_cell HS.out.pk 5).trans rfl
      have f5 := blk_frozen HS.out.pk 5
      have u6 := (blk_cell HS.out.pk 6).trans rfl
      have f6 := blk_frozen HS.out.pk 6
      have u7 := (blk_cell HS.out.pk 7).trans rfl
      have f7 := blk_frozen HS.out.pk 7
      have u8 := (blk_cell HS.out.pk 8).trans rfl
      have f8 := blk_frozen HS.out.pk 8
      have u9 := (blk_cell HS.out.pk 9).trans rfl
      have f9 := blk_frozen HS.out.pk 9
      have hfz : Boxed ((((((((((w41.setCell ⟨bp, 0, none⟩ (.int .i64 (bA l0 0))).setCell ⟨bp, 1, none⟩ (.int .u32 (lA l0 4))).setCell ⟨bp, 2, none⟩ (.int .i64 (sA l0 8))).setCell ⟨bp, 3, none⟩ (.int .i64 (sA l0 10))).setCell ⟨bp, 4, none⟩ (.int .u32 (lA l0 12))).setCell ⟨bp, 5, none⟩ (.int .u32 (lA l0 16))).setCell ⟨bp, 6, none⟩ (.int .u32 (lA l0 20))).setCell ⟨bp, 7, none⟩ (.int .u32 (lA l0 24))).setCell ⟨bp, 8, none⟩ (.slice A5 xh.length c5)).setCell ⟨bp, 9, none⟩ (.slice A9 os.length c9)) bf 4 (.bool false) := (pk10_far (by have := HS.out.ord; omega) (.int .i64 (bA l0 0)) (.int .u32 (lA l0 4)) (.int .i64 (sA l0 8)) (.int .i64 (sA l0 10)) (.int .u32 (lA l0 12)) (.int .u32 (lA l0 16)) (.int .u32 (lA l0 20)) (.int .u32 (lA l0 24)) (.slice A5 xh.length c5) (.slice A9 os.length c9)).trans HS.out.fl
      have HFZ := Lib.hid hfz
      have yf := hfz.cell
      have zf := hfz.frozen
      clear hfz
      go_wp2_with fail
      -- @fin
      clear yf zf u0 f0 u1 f1 u2 f2 u3 f3 u4 f4 u5 f5 u6 f6 u7 f7 u8 f8 u9 f9
      have hord := HS.out.ord
      have hpk := pk10 HS.out.pk (.int .i64 (bA l0 0)) (.int .u32 (lA l0 4)) (.int .i64 (sA l0 8)) (.int .i64 (sA l0 10)) (.int .u32 (lA l0 12)) (.int .u32 (lA l0 16)) (.int .u32 (lA l0 20)) (.int .u32 (lA l0 24)) (.slice A5 xh.length c5) (.slice A9 os.length c9)
      have hne : ∀ k, g < k → ((((((((((((w41.setCell ⟨bp, 0, none⟩ (.int .i64 (bA l0 0))).setCell ⟨bp, 1, none⟩ (.int .u32 (lA l0 4))).setCell ⟨bp, 2, none⟩ (.int .i64 (sA l0 8))).setCell ⟨bp, 3, none⟩ (.int .i64 (sA l0 10))).setCell ⟨bp, 4, none⟩ (.int .u32 (lA l0 12))).setCell ⟨bp, 5, none⟩ (.int .u32 (lA l0 16))).setCell ⟨bp, 6, none⟩ (.int .u32 (lA l0 20))).setCell ⟨bp, 7, none⟩ (.int .u32 (lA l0 24))).setCell ⟨bp, 8, none⟩ (.slice A5 xh.length c5)).setCell ⟨bp, 9, none⟩ (.slice A9 os.length c9))).setCell ⟨bf, 0, none⟩ (.bool true)).heap[k]? = w41.heap[k]? := fun k hk => (Below.heap_setCell _ _ _ k (show k ≠ bf by omega)).trans (pk10_far (by omega) (.int .i64 (bA l0 0)) (.int .u32 (lA l0 4)) (.int .i64 (sA l0 8)) (.int .i64 (sA l0 10)) (.int .u32 (lA l0 12)) (.int .u32 (lA l0 16)) (.int .u32 (lA l0 20)) (.int .u32 (lA l0 24)) (.slice A5 xh.length c5) (.slice A9 os.length c9))
      have hrd : rdP l0 = (bA l0 0, lA l0 4, sA l0 8, sA l0 10, lA l0 12, lA l0 16, lA l0 20, lA l0 24, xh, os, true) := by
        have hok : rdOk l0 := ⟨by have := HK.out; omega, HQ1.out, by rw [HN.out]; omega, HQ3.out, by rw [HN.out, Int.toNat_natCast, show 208 - n = m from by have := HMN.out; omega]; exact HZP.out, HQ6.out, by rw [HOS.out]; exact HQ7.out⟩
        unfold rdP
        rw [if_pos hok, HN.out, Int.toNat_natCast, HXH.out, HOS.out]
      have hres := HRES.out
      rw [hrd] at hres
      simp only [Prod.mk.injEq] at hres
      obtain ⟨rfl, rfl, rfl, rfl, rfl, rfl, rfl, rfl, rfl, rfl, rfl⟩ := hres
      refine prd_ret rfl rfl ((Below.heap_setCell _ _ _ bp (show bp ≠ bf by omega)).trans hpk) (HFZ.out.set _) ?_
      refine ⟨_, _, rfl, ?_, ?_, below_alloc (below_set (pk10_below HS.out.be hord.1 _ _ _ _ _ _ _ _ _ _) (by omega)) _⟩
      · exact Kd.R_mono (Kd.R_lower (Kd.R_alloc (Kd.R_step HV.out (fun k hk hlt => hne k (HVN.out k hk.symm).1)) _) HVB.out) (fun _ _ => trivial)
      · refine Kd.S_mono (Kd.S_lower (Kd.S_alloc (Kd.S_step HSO.out (fun k hk hlt => hne k (by have := hk.2.1; have := HGL.out; omega))) _) HSB.out) (fun k hk e => ?_)
        have h1 := HVL.out k e.symm
        have h2 := hk.2.1
        omega
end Go.Proofs.YtdpoknfidlekbaaDoor
end

section
namespace Go.Proofs.YtdpoknfidlekbaaDoor
open Go.RowKit Go.Proofs.YtdpoknfidlekbaaDoor.Pr Go.Proofs.YtdpoknfidlekbaaDoorW.PrintWords Go.Proofs.YtdpoknfidlekbaaDoorW.PrintLast Go.Proofs.YtdpoknfidlekbaaDoorW.PrintMore
attribute [local go_sem] max2_int min2_int max_two min_two max_three min_three max_four min_four
set_option linter.unusedVariables false
set_option linter.unusedSimpArgs false

namespace PQ
def bytesL (l : List Int) : Prop := ∀ x ∈ l, 0 ≤ x ∧ x ≤ 255
theorem encR_of {l : List OptP} (ok : ∀ x ∈ l, PD.okOpt x) (h : (PD.enc l).length + 1 ≤ 1024) : PO.encR l = (PD.enc l ++ [255], 0) := by
  unfold PO.encR
  rw [if_pos (show ∀ x ∈ l, PO.okOpt x from ok), if_neg (by have : (PO.enc l).length = (PD.enc l).length := rfl; omega)]
  rfl

def hwOf (l : List Int) : List Int := (l.drop 28).take (bA l 2).toNat
theorem hw_len {l : List Int} (hl : 240 ≤ l.length) (h : bA l 2 ≤ 16) : (hwOf l).length = (bA l 2).toNat := by unfold hwOf; rw [List.length_take, List.length_drop]; omega
theorem okPk_of {l : List Int} (hb : bytesL l) (hl : 240 ≤ l.length) (hn : bA l 2 ≤ 16) (os : List OptP) (ho : (PO.encR os).2 = 0) : PP.okPk (bA l 0) (sA l 8) (sA l 10) (hwOf l) os ↔ ((bA l 0 = 1 ∨ bA l 0 = 2) ∧ 1 ≤ bA l 2) := by
  have h2 := bA_in hb 2
  have hw := hw_len hl hn
  have h8 := sA_in hb 8
  have h10 := sA_in hb 10
  unfold PP.okPk
  constructor
  · rintro ⟨h1, h3, _⟩
    exact ⟨h1, by omega⟩
  · rintro ⟨h1, h3⟩
    exact ⟨h1, ⟨by omega, by omega⟩, h8, h10, ho⟩
theorem encR_nil : (PO.encR ([] : List OptP)).2 = 0 := by
  rw [encR_of (by simp) (by simp [PD.enc])]
abbrev PkQ := Int × Int × Int × Int × Int × Int × Int × Int × List Int × List OptP × Int
def pdR (l : List Int) : PkQ := if rdOk l ∧ (bA l 0 = 1 ∨ bA l 0 = 2) ∧ 1 ≤ bA l 2 then (bA l 0, lA l 4, sA l 8, sA l 10, lA l 12, lA l 16, lA l 20, lA l 24, hwOf l, (odR (l.drop 240)).1, 0) else (0, 0, 0, 0, 0, 0, 0, 0, [], [], 2)
end PQ
def packet_Decode.f (l0 : List Int) : Option PQ.PkQ := if (∀ x ∈ l0, 0 ≤ x ∧ x ≤ 255) ∧ l0.length < 1099511627776 then some (PQ.pdR l0) else none
theorem pdec_ret {R : Ending → World → Prop} {tmps : Array Value} {W : World} {br : Nat} {a0 a1 a2 a3 a4 a5 a6 a7 z : Int} {A8 A9 : Option Addr} {n8 c8 n9 c9 : Nat} (h2 : tmps[2]? = some (.pointer (some ⟨br, 0, none⟩))) (h3 : tmps[3]? = some (.int .i64 z))
    (h : W.heap[br]? = some (.cells #[.int .i64 a0, .int .u32 a1, .int .i64 a2, .int .i64 a3, .int .u32 a4, .int .u32 a5, .int .u32 a6, .int .u32 a7, .slice A8 n8 c8, .slice A9 n9 c9] 27 (0, 0)))
    (hR : R (.returned (.tuple #[.agg #[.int .i64 a0, .int .u32 a1, .int .i64 a2, .int .i64 a3, .int .u32 a4, .int .u32 a5, .int .u32 a6, .int .u32 a7, .slice A8 n8 c8, .slice A9 n9 c9], .int .i64 z])) W) :
    bodyPost Tryd.prog Tryd.f8 R .ret { tmps := tmps, defers := [] } W := by
  have y0 := (blk_cell h 0).trans rfl
  have y1 := (blk_cell h 1).trans rfl
  have y2 := (blk_cell h 2).trans rfl
  have y3 := (blk_cell h 3).trans rfl
  have y4 := (blk_cell h 4).trans rfl
  have y5 := (blk_cell h 5).trans rfl
  have y6 := (blk_cell h 6).trans rfl
  have y7 := (blk_cell h 7).trans rfl
  have y8 := (blk_cell h 8).trans rfl
  have y9 := (blk_cell h 9).trans rfl
  refine bodyPost_ret (v := .tuple #[.agg #[.int .i64 a0, .int .u32 a1, .int .i64 a2, .int .i64 a3, .int .u32 a4, .int .u32 a5, .int .u32 a6, .int .u32 a7, .slice A8 n8 c8, .slice A9 n9 c9], .int .i64 z]) ?_ rfl hR
  simp [results, Tryd.results8, go_sem, h2, h3, y0, y1, y2, y3, y4, y5, y6, y7, y8, y9]
set_option maxHeartbeats 8000000 in
set_option maxRecDepth 100000 in
theorem packet_Decode.calls (A0 : Option Addr) (c0 : Nat) (l0 : List Int) (r1 r2 r3 r4 r5 r6 r7 r8 : Int) (r9 : List Int) (r10 : List OptP) (r11 : Int) (w : World) (hr0 : Kd.C (Kd.int .u8) w A0 l0.length l0) (hc0 : l0.length ≤ c0) (h : packet_Decode.f l0 = some (r1, r2, r3, r4, r5, r6, r7, r8, r9, r10, r11)) :
    Calls Tryd.prog 8 #[.slice A0 l0.length c0] w fun e w' => ∃ v8_ v9_ : Value, e = .returned (.tuple #[.agg #[.int .i64 r1, .int .u32 r2, .int .i64 r3, .int .i64 r4, .int .u32 r5, .int .u32 r6, .int .u32 r7, .int .u32 r8, v8_, v9_], .int .i64 r11]) ∧ Kd.R (Kd.int .u8) 5 w' w.heap.size (fun _ => True) v8_ r9 ∧ Kd.S k53 53 w' w.heap.size (fun k_ => some k_ ≠ (v8_ : Value).ownBlock) v9_ r10 ∧ Below w.heap.size w w' := by
  unfold packet_Decode.f at h
  split at h
  case isFalse => cases h
  rename_i hcond
  have h := Option.some.inj h
  have bad : ∀ {e : Ending} {w' : World}, e = .returned (.tuple #[.agg pkNilC, .int .i64 2]) ∧ Below w.heap.size w w' → ¬ (rdOk l0 ∧ (bA l0 0 = 1 ∨ bA l0 0 = 2) ∧ 1 ≤ bA l0 2) → ∃ v8_ v9_ : Value, e = .returned (.tuple #[.agg #[.int .i64 r1, .int .u32 r2, .int .i64 r3, .int .i64 r4, .int .u32 r5, .int .u32 r6, .int .u32 r7, .int .u32 r8, v8_, v9_], .int .i64 r11]) ∧ Kd.R (Kd.int .u8) 5 w' w.heap.size (fun _ => True) v8_ r9 ∧ Kd.S k53 53 w' w.heap.size (fun k_ => some k_ ≠ (v8_ : Value).ownBlock) v9_ r10 ∧ Below w.heap.size w w' := by
    rintro e w' ⟨he, hb⟩ hz
    have h2 := h
    unfold PQ.pdR at h2
    rw [if_neg hz] at h2
    simp only [Prod.mk.injEq] at h2
    obtain ⟨rfl, rfl, rfl, rfl, rfl, rfl, rfl, rfl, rfl, rfl, rfl⟩ := h2
    exact ⟨_, _, he, Kd.R_nil _ _ _ _ _, Kd.S_nil _ _ _ _ _, hb⟩
  obtain ⟨s1, s2, s3, s4, s5, s6, s7, s8, s9, s10, s11, hs⟩ : ∃ s1 s2 s3 s4 s5 s6 s7 s8 s9 s10 s11, rdP l0 = (s1, s2, s3, s4, s5, s6, s7, s8, s9, s10, s11) := ⟨_, _, _, _, _, _, _, _, _, _, _, rfl⟩
  have hrf : packet_read.f l0 = some (s1, s2, s3, s4, s5, s6, s7, s8, s9, s10, s11) := (if_pos hcond).trans (congrArg some hs)
  have HRD := Lib.hid (fun W (hW : Below w.heap.size w W) => packet_read.calls A0 c0 l0 s1 s2 s3 s4 s5 s6 s7 s8 s9 s10 s11 W (Kd.C_below hr0 hW) hc0 hrf)
  have BAD := Lib.hid (fun e w' => @bad e w')
  have HS := Lib.hid hs
  have HC := Lib.hid hcond
  have HRES := Lib.hid h
  clear hr0 hrf bad hs hcond h
  go_enter Tryd.func8, Tryd.ntmps8
  go_upto_region 1 with fail
  obtain ⟨bz, hbz⟩ : ∃ b, w.heap.size = b := ⟨_, rfl⟩
  obtain ⟨w1, hw1⟩ : ∃ W, w.alloc (.cells pkNilC 27) = W := ⟨_, rfl⟩
  have HZ1 : Hid (w1.heap[bz]? = some (.cells pkNilC 27 (0, 0))) := by show _ = _; rw [← hw1, ← hbz]; exact blk_new _ _
  have HB1 : Hid (Below w.heap.size w w1) := by show Below _ _ _; rw [← hw1]; exact below_alloc (Below.refl _ _) _
  have HBZ : Hid (w.heap.size ≤ bz ∧ bz < w1.heap.size) := ⟨by omega, blk_lt HZ1.out⟩
  try rw [hbz]
  try change Code.wp _ _ _ _ (w.alloc (.cells pkNilC 27))
  rw [hw1]
  clear hw1 hbz
  go_wp2_with fail
  refine (HRD.out _ HB1.out).mono ?_
  rintro e w2 ⟨v8, v9, rfl, hv8, hv9, hb2⟩
  obtain ⟨A5, c5, rfl⟩ := Kd.R_slice hv8
  obtain ⟨A9, c9, rfl⟩ := Kd.S_slice hv9
  obtain ⟨n5, hn5⟩ : ∃ n, s9.length = n := ⟨_, rfl⟩
  obtain ⟨n9, hn9⟩ : ∃ n, s10.length = n := ⟨_, rfl⟩
  rw [hn5] at hv8 hv9
  rw [hn9] at hv9
  try rw [hn5]
  try rw [hn9]
  have HN5 := Lib.hid hn5
  have HN9 := Lib.hid hn9
  clear hn5 hn9
  have HZ2 : Hid (_ = some _) := (hb2.block bz (blk_lt HZ1.out)).trans HZ1.out
  have HB2 := Lib.hid (HB1.out.trans (hb2.mono HB1.out.size))
  have HSZ : Hid (w1.heap.size ≤ w2.heap.size) := hb2.size
  have HV8 := Lib.hid hv8
  have HV9 := Lib.hid hv9
  clear hb2 hv8 hv9 HZ1 HB1 HRD
  go_upto_region 2 with fail
  -- @two
  obtain ⟨bp, hbp⟩ : ∃ b, w2.heap.size = b := ⟨_, rfl⟩
  rw [hbp]
  obtain ⟨w3, hw3⟩ : ∃ W, w2.alloc (.cells #[.int .i64 s1, .int .u32 s2, .int .i64 s3, .int .i64 s4, .int .u32 s5, .int .u32 s6, .int .u32 s7, .int .u32 s8, .slice A5 n5 c5, .slice A9 n9 c9] 27) = W := ⟨_, rfl⟩
  have HP3 : Hid (w3.heap[bp]? = some (.cells #[.int .i64 s1, .int .u32 s2, .int .i64 s3, .int .i64 s4, .int .u32 s5, .int .u32 s6, .int .u32 s7, .int .u32 s8, .slice A5 n5 c5, .slice A9 n9 c9] 27 (0, 0))) := by show _ = _; rw [← hw3, ← hbp]; exact blk_new _ _
  have HK3 : Hid (∀ k, k < w2.heap.size → w3.heap[k]? = w2.heap[k]?) := fun k hk => by rw [← hw3]; exact Below.heap_alloc _ _ _ (by omega)
  have HB3 : Hid (Below w.heap.size w w3) := by show Below _ _ _; rw [← hw3]; exact below_alloc HB2.out _
  have HBP : Hid (bp = w2.heap.size ∧ bp < w3.heap.size) := ⟨hbp.symm, blk_lt HP3.out⟩
  rw [hw3]
  clear hw3 hbp
  -- @twob
  have y0 := (blk_cell HP3.out 0).trans rfl
  have y1 := (blk_cell HP3.out 1).trans rfl
  have y2 := (blk_cell HP3.out 2).trans rfl
  have y3 := (blk_cell HP3.out 3).trans rfl
  have y4 := (blk_cell HP3.out 4).trans rfl
  have y5 := (blk_cell HP3.out 5).trans rfl
  have y6 := (blk_cell HP3.out 6).trans rfl
  have y7 := (blk_cell HP3.out 7).trans rfl
  have y8 := (blk_cell HP3.out 8).trans rfl
  have y9 := (blk_cell HP3.out 9).trans rfl
  go_upto_region 4 with fail
  -- @three
  clear y0 y1 y2 y3 y4 y5 y6 y7 y8 y9
  obtain ⟨bh, hbh⟩ : ∃ b, w3.heap.size = b := ⟨_, rfl⟩
  rw [hbh]
  obtain ⟨w5, hw5⟩ : ∃ W, w3.alloc (.cells #[.int .i64 s1, .int .u32 s2, .int .i64 s3, .int .i64 s4, .int .u32 s5, .int .u32 s6, .int .u32 s7, .int .u32 s8, .slice A5 n5 c5, .slice none 0 0] 27) = W := ⟨_, rfl⟩
  have HH5 : Hid (w5.heap[bh]? = some (.cells #[.int .i64 s1, .int .u32 s2, .int .i64 s3, .int .i64 s4, .int .u32 s5, .int .u32 s6, .int .u32 s7, .int .u32 s8, .slice A5 n5 c5, .slice none 0 0] 27 (0, 0))) := by show _ = _; rw [← hw5, ← hbh]; exact blk_new _ _
  have HK5 : Hid (∀ k, k < w3.heap.size → w5.heap[k]? = w3.heap[k]?) := fun k hk => by rw [← hw5]; exact Below.heap_alloc _ _ _ (by omega)
  have HB5 : Hid (Below w.heap.size w w5) := by show Below _ _ _; rw [← hw5]; exact below_alloc HB3.out _
  have HS5 : Hid (w3.heap.size ≤ w5.heap.size) := by show _ ≤ _; rw [← hw5]; simp
  rw [hw5]
  clear hw5 hbh
  -- @four
  have HP5 : Hid (w5.heap[bp]? = some _) := (HK5.out bp (blk_lt HP3.out)).trans HP3.out
  have HK25 : Hid (∀ k, k < w2.heap.size → w5.heap[k]? = w2.heap[k]?) := fun k hk => (HK5.out k (by have := HBP.out; omega)).trans (HK3.out k hk)
  have HZ5 : Hid (w5.heap[bz]? = some _) := (HK25.out bz (blk_lt HZ2.out)).trans HZ2.out
  cases s11 with
  | false =>
    have u0 := (blk_cell HZ5.out 0).trans rfl
    have u1 := (blk_cell HZ5.out 1).trans rfl
    have u2 := (blk_cell HZ5.out 2).trans rfl
    have u3 := (blk_cell HZ5.out 3).trans rfl
    have u4 := (blk_cell HZ5.out 4).trans rfl
    have u5 := (blk_cell HZ5.out 5).trans rfl
    have u6 := (blk_cell HZ5.out 6).trans rfl
    have u7 := (blk_cell HZ5.out 7).trans rfl
    have u8 := (blk_cell HZ5.out 8).trans rfl
    have u9 := (blk_cell HZ5.out 9).trans rfl
    have f0 := blk_frozen HZ5.out 0
    have f1 := blk_frozen HZ5.out 1
    have f2 := blk_frozen HZ5.out 2
    have f3 := blk_frozen HZ5.out 3
    have f4 := blk_frozen HZ5.out 4
    have f5 := blk_frozen HZ5.out 5
    have f6 := blk_frozen HZ5.out 6
    have f7 := blk_frozen HZ5.out 7
    have f8 := blk_frozen HZ5.out 8
    have f9 := blk_frozen HZ5.out 9
    go_wp2_with fail
    -- @bad1
    refine pdec_ret rfl rfl (pk10 HZ5.out _ _ _ _ _ _ _ _ _ _) (BAD.out _ _ ⟨rfl, pk10_below HB5.out (by have := HBZ.out; omega) _ _ _ _ _ _ _ _ _ _⟩ (fun hz => ?_))
    have h2 := HS.out
    unfold rdP at h2
    rw [if_pos hz.1] at h2
    simp at h2
  | true =>
    have HOK : Hid (rdOk l0) := by
      show rdOk l0
      have h2 := HS.out
      unfold rdP at h2
      split at h2
      · assumption
      · simp at h2
    obtain ⟨rt, hrt⟩ : ∃ rt, rt = decide (PP.okPk s1 s3 s4 s9 []) := ⟨_, rfl⟩
    have HRT := Lib.hid hrt
    have HRI : Hid (Calls Tryd.prog 5 #[.agg #[.int .i64 s1, .int .u32 s2, .int .i64 s3, .int .i64 s4, .int .u32 s5, .int .u32 s6, .int .u32 s7, .int .u32 s8, .slice A5 n5 c5, .slice none 0 0]] w5 fun e w' => e = .returned (.bool rt) ∧ Below w5.heap.size w5 w') := by
      have hc8 : (Kd.int .u8).C w5 A5 s9.length s9 ∧ s9.length ≤ c5 := by
        have h0 := Kd.R_step (w1 := w5) HV8.out (fun k hk hlt => HK25.out k hlt)
        rw [← HN5.out] at h0
        exact ⟨(Kd.R_reads' h0).2.2, (Kd.R_reads' h0).2.1⟩
      have := packet_Right.calls 1048600 s1 s2 s3 s4 s5 s6 s7 s8 A5 c5 s9 none 0 ([] : List OptP) rt w5 hc8.1 hc8.2 (Kd.C_nil _ _) (Nat.le_refl _) (by rw [hrt]; exact PP.right_eq s1 s2 s3 s4 s5 s6 s7 s8 s9 [] ⟨by simp, by simp⟩ 1048600 (Nat.le_refl _))
      rw [HN5.out] at this
      exact this
    clear hrt
    have y0 := (blk_cell HH5.out 0).trans rfl
    have y1 := (blk_cell HH5.out 1).trans rfl
    have y2 := (blk_cell HH5.out 2).trans rfl
    have y3 := (blk_cell HH5.out 3).trans rfl
    have y4 := (blk_cell HH5.out 4).trans rfl
    have y5 := (blk_cell HH5.out 5).trans rfl
    have y6 := (blk_cell HH5.out 6).trans rfl
    have y7 := (blk_cell HH5.out 7).trans rfl
    have y8 := (blk_cell HH5.out 8).trans rfl
    have y9 := (blk_cell HH5.out 9).trans rfl
    go_wp2_with fail
    -- @right
    refine HRI.out.mono ?_
    rintro e w6 ⟨rfl, hb6⟩
    clear HRI
    clear y0 y1 y2 y3 y4 y5 y6 y7 y8 y9
    have HP6 : Hid (_ = some _) := (hb6.block bp (blk_lt HP5.out)).trans HP5.out
    have HZ6 : Hid (_ = some _) := (hb6.block bz (blk_lt HZ5.out)).trans HZ5.out
    have HB6 := Lib.hid (HB5.out.trans (hb6.mono HB5.out.size))
    have HK6 : Hid (∀ k, k < w2.heap.size → w6.heap[k]? = w2.heap[k]?) := fun k hk => (hb6.block k (by have := HBP.out; have := HS5.out; omega)).trans (HK25.out k hk)
    clear hb6
    have u0 := (blk_cell HZ6.out 0).trans rfl
    have u1 := (blk_cell HZ6.out 1).trans rfl
    have u2 := (blk_cell HZ6.out 2).trans rfl
    have u3 := (blk_cell HZ6.out 3).trans rfl
    have u4 := (blk_cell HZ6.out 4).trans rfl
    have u5 := (blk_cell HZ6.out 5).trans rfl
    have u6 := (blk_cell HZ6.out 6).trans rfl
    have u7 := (blk_cell HZ6.out 7).trans rfl
    have u8 := (blk_cell HZ6.out 8).trans rfl
    have u9 := (blk_cell HZ6.out 9).trans rfl
    have f0 := blk_frozen HZ6.out 0
    have f1 := blk_frozen HZ6.out 1
    have f2 := blk_frozen HZ6.out 2
    have f3 := blk_frozen HZ6.out 3
    have f4 := blk_frozen HZ6.out 4
    have f5 := blk_frozen HZ6.out 5
    have f6 := blk_frozen HZ6.out 6
    have f7 := blk_frozen HZ6.out 7
    have f8 := blk_frozen HZ6.out 8
    have f9 := blk_frozen HZ6.out 9
    have HOKI : Hid (rt = true ↔ ((bA l0 0 = 1 ∨ bA l0 0 = 2) ∧ 1 ≤ bA l0 2)) := by
      show _ ↔ _
      have h2 := HS.out
      unfold rdP at h2
      rw [if_pos HOK.out] at h2
      simp only [Prod.mk.injEq] at h2
      have e9 : PQ.hwOf l0 = s9 := h2.2.2.2.2.2.2.2.2.1
      rw [HRT.out, decide_eq_true_iff, ← h2.1, ← h2.2.2.1, ← h2.2.2.2.1, ← e9]
      exact PQ.okPk_of HC.out.1 HOK.out.1 HOK.out.2.2.1 [] PQ.encR_nil
    cases rt with
    | false =>
      go_wp2_with fail
      -- @bad2
      exact pdec_ret rfl rfl (pk10 HZ6.out _ _ _ _ _ _ _ _ _ _) (BAD.out _ _ ⟨rfl, pk10_below HB6.out (by have := HBZ.out; omega) _ _ _ _ _ _ _ _ _ _⟩ (fun hz => absurd (HOKI.out.2 hz.2) (by decide)))
    | true =>
      have HOKB := Lib.hid (HOKI.out.1 rfl)
      have HVT := Lib.hid (Kd.R_tight rfl HV8.out)
      have HVB : Hid (∀ k, (Value.slice A5 n5 c5).ownBlock = some k → w1.heap.size ≤ k) := fun k hk => Kd.R_base HV8.out k hk
      have HSO := Lib.hid (Kd.S_bound HV9.out)
      have y0 := (blk_cell HP6.out 0).trans rfl
      have y1 := (blk_cell HP6.out 1).trans rfl
      have y2 := (blk_cell HP6.out 2).trans rfl
      have y3 := (blk_cell HP6.out 3).trans rfl
      have y4 := (blk_cell HP6.out 4).trans rfl
      have y5 := (blk_cell HP6.out 5).trans rfl
      have y6 := (blk_cell HP6.out 6).trans rfl
      have y7 := (blk_cell HP6.out 7).trans rfl
      have y8 := (blk_cell HP6.out 8).trans rfl
      have y9 := (blk_cell HP6.out 9).trans rfl
      go_wp2_with fail
      -- @good
      refine pdec_ret rfl rfl (pk10 HZ6.out _ _ _ _ _ _ _ _ _ _) ?_
      have hr := HRES.out
      have h2 := HS.out
      unfold PQ.pdR at hr
      unfold rdP at h2
      rw [if_pos ⟨HOK.out, HOKB.out⟩] at hr
      rw [if_pos HOK.out] at h2
      simp only [Prod.mk.injEq] at hr h2
      obtain ⟨rfl, rfl, rfl, rfl, rfl, rfl, rfl, rfl, rfl, rfl, rfl⟩ := hr
      obtain ⟨rfl, rfl, rfl, rfl, rfl, rfl, rfl, rfl, rfl, rfl, _⟩ := h2
      have hbz := HBZ.out
      have hsz := HSZ.out
      have hend : ∀ k, w1.heap.size ≤ k → k < w2.heap.size → _ = w2.heap[k]? := fun k hk hlt => (pk10_far (W := w6) (show k ≠ bz by omega) (.int .i64 (bA l0 0)) (.int .u32 (lA l0 4)) (.int .i64 (sA l0 8)) (.int .i64 (sA l0 10)) (.int .u32 (lA l0 12)) (.int .u32 (lA l0 16)) (.int .u32 (lA l0 20)) (.int .u32 (lA l0 24)) (.slice A5 n5 c5) (.slice A9 n9 c9)).trans (HK6.out k hlt)
      refine ⟨_, _, rfl, ?_, ?_, pk10_below HB6.out (by omega) _ _ _ _ _ _ _ _ _ _⟩
      · exact Kd.R_mono (Kd.R_lower (Kd.R_step HVT.out (fun k hk hlt => hend k (HVB.out k hk.symm) hlt)) (by omega)) (fun _ _ => trivial)
      · exact Kd.S_mono (Kd.S_lower (Kd.S_step HSO.out (fun k hk hlt => hend k hk.2.1 hlt)) (by omega)) (fun k hk => hk.1)
end Go.Proofs.YtdpoknfidlekbaaDoor
end

section
namespace Go.Proofs.YtdpoknfidlekbaaDoor.PQ
open Go.RowKit Go.Proofs.YtdpoknfidlekbaaDoor Go.Proofs.YtdpoknfidlekbaaDoor.Pr Go.Proofs.YtdpoknfidlekbaaDoorW.PrintWords Go.Proofs.YtdpoknfidlekbaaDoorW.PrintLast Go.Proofs.YtdpoknfidlekbaaDoorW.PrintMore
set_option linter.unusedVariables false
set_option linter.unusedSimpArgs false

theorem wrapQ {x : Int} (h0 : 0 ≤ x) (h1 : x < 9223372036854775808) : wrap64 x = x := by unfold wrap64; omega
theorem str_inj {a b : List Int} (ha : bytesL a) (hb : bytesL b) : ((strOfNums a).toList == (strOfNums b).toList) = decide (a = b) := by
  have key : ∀ (a b : List Int), bytesL a → bytesL b → (a.map fun n => UInt8.ofNat n.toNat) = (b.map fun n => UInt8.ofNat n.toNat) → a = b := by
    intro a
    induction a with
    | nil => intro b _ _ h; cases b with | nil => rfl | cons => simp at h
    | cons x a ih =>
      intro b ha hb h
      cases b with
      | nil => simp at h
      | cons y b =>
        simp only [List.map_cons, List.cons.injEq] at h
        have h1 := ha x (by simp)
        have h2 := hb y (by simp)
        have e : x = y := by
          have := congrArg UInt8.toNat h.1
          simp only [UInt8.toNat_ofNat'] at this
          omega
        rw [e, ih b (fun z hz => ha z (by simp [hz])) (fun z hz => hb z (by simp [hz])) h.2]
  have hl : ∀ xs : List Int, (strOfNums xs).toList = xs.map fun n => UInt8.ofNat n.toNat := fun xs => by
    rw [← strOfNums_data]
    first
      | rfl
      | exact ByteArray.toList_eq _
      | simp [ByteArray.toList_data]
  rw [hl, hl, Bool.eq_iff_iff, beq_iff_eq, decide_eq_true_iff]
  exact ⟨fun h => key a b ha hb h, fun h => by rw [h]⟩

/-! ### options -/
theorem enc_same : PO.enc = PD.enc := rfl
theorem encR_same (l : List OptP) : PO.encR l = PD.encR l := rfl
theorem pGo_ok : ∀ (n : Nat) (l : List Int) (acc pre : List OptP) (r : List Int), l.length ≤ n → bytesL l → pGo l acc = (pre, some r) → ∃ m, pre = acc ++ m ∧ (∀ x ∈ m, PD.okOpt x) ∧ (PD.enc m).length + 1 + r.length ≤ l.length ∧ (∀ x ∈ m, bytesL x.f1) := by
  intro n
  induction n with
  | zero =>
    intro l acc pre r hl hb h
    obtain rfl : l = [] := List.eq_nil_of_length_eq_zero (by omega)
    rw [pGo_nil] at h
    cases h
  | succ n ih =>
    intro l acc pre r hl hb h
    cases l with
    | nil => rw [pGo_nil] at h; cases h
    | cons x t =>
      have hx := hb x (by simp)
      have hbt : bytesL t := fun y hy => hb y (by simp [hy])
      simp only [List.length_cons] at hl
      by_cases c0 : x = 0
      · subst c0
        rw [pGo_zero] at h
        obtain ⟨m, h1, h2, h3, h4⟩ := ih t acc pre r (by omega) hbt h
        exact ⟨m, h1, h2, by simp only [List.length_cons]; omega, h4⟩
      by_cases c1 : x = 255
      · subst c1
        rw [pGo_end] at h
        obtain ⟨e1, e2⟩ := Prod.mk.inj h
        subst e1
        obtain rfl := Option.some.inj e2
        exact ⟨[], by simp, by simp, by simp [PD.enc]; omega, by simp⟩
      cases t with
      | nil => rw [pGo_lone c0 c1] at h; cases h
      | cons y s =>
        have hy := hb y (by simp)
        by_cases c2 : y.toNat ≤ s.length
        · rw [pGo_step c0 c1 c2] at h
          simp only [List.length_cons] at hl
          obtain ⟨m, h1, h2, h3, h4⟩ := ih (s.drop y.toNat) _ pre r (by rw [List.length_drop]; omega) (fun z hz => hbt z (List.mem_cons_of_mem _ (List.mem_of_mem_drop hz))) h
          have hlt : (s.take y.toNat).length = y.toNat := by rw [List.length_take]; omega
          refine ⟨⟨x, s.take y.toNat⟩ :: m, by rw [h1]; simp, ?_, ?_, ?_⟩
          · intro z hz
            rcases List.mem_cons.1 hz with rfl | hz
            · exact ⟨by simp only; omega, by simp only; omega, by simp only; omega⟩
            · exact h2 z hz
          · rw [List.length_drop] at h3
            have : PD.enc (⟨x, s.take y.toNat⟩ :: m) = PD.enc1 ⟨x, s.take y.toNat⟩ ++ PD.enc m := by simp [PD.enc]
            rw [this, List.length_append, PD.enc1_len]
            simp only [List.length_cons]
            omega
          · intro z hz
            rcases List.mem_cons.1 hz with rfl | hz
            · exact fun w hw => hbt w (List.mem_cons_of_mem _ (List.mem_of_mem_take hw))
            · exact h4 z hz
        · rw [pGo_stop c0 c1 c2] at h; cases h
theorem odR_cases (l : List Int) (hb : bytesL l) : odR l = ([], 2) ∨ ∃ os, odR l = (os, 0) ∧ (∀ x ∈ os, PD.okOpt x) ∧ (PD.enc os).length + 1 ≤ l.length ∧ l.length ≤ 1024 ∧ (∀ x ∈ os, bytesL x.f1) := by
  rw [PD.odR_eq]
  by_cases c : 1024 < l.length
  · rw [if_pos c]; exact .inl rfl
  · rw [if_neg c]
    obtain ⟨pre, r, hp⟩ : ∃ pre r, pGo l [] = (pre, r) := ⟨_, _, rfl⟩
    rw [hp]
    cases r with
    | none => exact .inl rfl
    | some r =>
      unfold PD.odOf
      simp only
      by_cases c2 : ∀ x ∈ r, x = 0
      · rw [if_pos c2]
        obtain ⟨m, h1, h2, h3, h4⟩ := pGo_ok _ l [] pre r (Nat.le_refl _) hb hp
        rw [List.nil_append] at h1
        subst h1
        exact .inr ⟨pre, rfl, h2, by omega, by omega, h4⟩
      · rw [if_neg c2]; exact .inl rfl
theorem pGo_encQ (l : List OptP) (ok : ∀ x ∈ l, PD.okOpt x) : ∀ (t : List Int) (acc : List OptP), pGo (PD.enc l ++ t) acc = pGo t (acc ++ l) := by
  induction l with
  | nil => intro t acc; simp [PD.enc]
  | cons x l ih =>
    intro t acc
    obtain ⟨h1, h2, h3⟩ := ok x (by simp)
    have e : PD.enc (x :: l) ++ t = x.f0 :: (x.f1.length : Int) :: (x.f1 ++ (PD.enc l ++ t)) := by
      have e1 : PD.enc (x :: l) = PD.enc1 x ++ PD.enc l := by simp [PD.enc]
      rw [e1]
      unfold PD.enc1
      rw [Int.emod_eq_of_lt (by omega) (by omega), Int.emod_eq_of_lt (by omega) (by omega)]
      simp
    rw [e, pGo_step (by omega) (by omega) (by simp), Int.toNat_natCast, List.drop_left, List.take_left, ih (fun y hy => ok y (by simp [hy]))]
    simp
theorem odR_enc (l : List OptP) (ok : ∀ x ∈ l, PD.okOpt x) (h : (PD.enc l).length + 1 ≤ 1024) : odR (PD.enc l ++ [255]) = (l, 0) := by
  rw [PD.odR_eq, if_neg (by simp; omega), pGo_encQ l ok, pGo_end, List.nil_append]
  unfold PD.odOf
  simp
theorem encR_ok {l : List OptP} (h : (PO.encR l).2 = 0) : (∀ x ∈ l, PD.okOpt x) ∧ (PD.enc l).length + 1 ≤ 1024 ∧ PO.encR l = (PD.enc l ++ [255], 0) := by
  unfold PO.encR at h ⊢
  split at h
  · rename_i ok
    split at h
    · cases h
    · rename_i hl
      rw [if_pos ok, if_neg hl]
      exact ⟨ok, by have : (PO.enc l).length = (PD.enc l).length := rfl; omega, rfl⟩
  · cases h
/-! ### the head -/
def headOf (l : List Int) : List Int := pkHead (bA l 0) (lA l 4) (sA l 8) (sA l 10) (lA l 12) (lA l 16) (lA l 20) (lA l 24) (hwOf l)
theorem drop_four {l : List Int} {j : Nat} (h : j + 4 ≤ l.length) : (l.drop j).take 4 = [bA l j, bA l (j + 1), bA l (j + 2), bA l (j + 3)] := by
  rw [bA_of (show j < l.length by omega), bA_of (show j + 1 < l.length by omega), bA_of (show j + 2 < l.length by omega), bA_of (show j + 3 < l.length by omega),
    List.drop_eq_getElem_cons (show j < l.length by omega), List.drop_eq_getElem_cons (show j + 1 < l.length by omega), List.drop_eq_getElem_cons (show j + 2 < l.length by omega), List.drop_eq_getElem_cons (show j + 3 < l.length by omega)]
  rfl
theorem drop_two {l : List Int} {j : Nat} (h : j + 2 ≤ l.length) : (l.drop j).take 2 = [bA l j, bA l (j + 1)] := by
  rw [bA_of (show j < l.length by omega), bA_of (show j + 1 < l.length by omega), List.drop_eq_getElem_cons (show j < l.length by omega), List.drop_eq_getElem_cons (show j + 1 < l.length by omega)]
  rfl
theorem pk2_s {l : List Int} (hb : bytesL l) (j : Nat) : pk2 (sA l j) = [bA l j, bA l (j + 1)] := by
  have h1 := bA_in hb j
  have h2 := bA_in hb (j + 1)
  unfold pk2 sA
  have e1 : (bA l j * 256 + bA l (j + 1)) / 256 % 256 = bA l j := by omega
  have e2 : (bA l j * 256 + bA l (j + 1)) % 256 = bA l (j + 1) := by omega
  rw [e1, e2]
theorem pk4_l {l : List Int} (hb : bytesL l) (j : Nat) : pk4 (lA l j) = [bA l j, bA l (j + 1), bA l (j + 2), bA l (j + 3)] := by
  have h1 := sA_in hb j
  have h2 := sA_in hb (j + 2)
  have e1 : (sA l j * 65536 + sA l (j + 2)) / 65536 = sA l j := by omega
  have e2 : (sA l j * 65536 + sA l (j + 2)) % 65536 = sA l (j + 2) := by omega
  unfold pk4 lA
  rw [e1, e2, pk2_s hb, pk2_s hb]
  rfl
theorem take_add (l : List Int) (j k : Nat) : l.take (j + k) = l.take j ++ (l.drop j).take k := by
  rw [List.take_add]
def padOf (l : List Int) : List Int := (l.drop (28 + (bA l 2).toNat)).take (208 - (bA l 2).toNat)
theorem take_240 {l : List Int} (hl : 240 ≤ l.length) (hn : bA l 2 ≤ 16) (hn0 : 0 ≤ bA l 2) :
    l.take 240 = [bA l 0, bA l 1, bA l 2, bA l 3] ++ [bA l 4, bA l 5, bA l 6, bA l 7] ++ [bA l 8, bA l 9] ++ [bA l 10, bA l 11] ++ ([bA l 12, bA l 13, bA l 14, bA l 15] ++ [bA l 16, bA l 17, bA l 18, bA l 19] ++ [bA l 20, bA l 21, bA l 22, bA l 23] ++ [bA l 24, bA l 25, bA l 26, bA l 27]) ++ hwOf l ++ padOf l ++ [bA l 236, bA l 237, bA l 238, bA l 239] := by
  obtain ⟨n, hn1⟩ : ∃ n : Nat, bA l 2 = n := ⟨(bA l 2).toNat, by omega⟩
  unfold hwOf padOf
  rw [show (240 : Nat) = 28 + (bA l 2).toNat + (208 - (bA l 2).toNat) + 4 from by omega, take_add, take_add, take_add]
  rw [show 28 + (bA l 2).toNat + (208 - (bA l 2).toNat) = 236 from by omega, drop_four (j := 236) (by omega)]
  congr 2
  congr 1
  rw [show (28 : Nat) = 4 + 4 + 2 + 2 + 4 + 4 + 4 + 4 from rfl, take_add, take_add, take_add, take_add, take_add, take_add, take_add]
  rw [show l.take 4 = (l.drop 0).take 4 from rfl, drop_four (j := 0) (by omega), drop_four (j := 4) (by omega), drop_two (j := 4 + 4) (by omega), drop_two (j := 4 + 4 + 2) (by omega), drop_four (j := 4 + 4 + 2 + 2) (by omega), drop_four (j := 4 + 4 + 2 + 2 + 4) (by omega), drop_four (j := 4 + 4 + 2 + 2 + 4 + 4) (by omega), drop_four (j := 4 + 4 + 2 + 2 + 4 + 4 + 4) (by omega)]
  simp
theorem head_of {l : List Int} (hb : bytesL l) (hl : 240 ≤ l.length) (hn : bA l 2 ≤ 16) :
    headOf l = [bA l 0, 1, bA l 2, 0] ++ [bA l 4, bA l 5, bA l 6, bA l 7] ++ [bA l 8, bA l 9] ++ [bA l 10, bA l 11] ++ ([bA l 12, bA l 13, bA l 14, bA l 15] ++ [bA l 16, bA l 17, bA l 18, bA l 19] ++ [bA l 20, bA l 21, bA l 22, bA l 23] ++ [bA l 24, bA l 25, bA l 26, bA l 27]) ++ hwOf l ++ List.replicate (208 - (bA l 2).toNat) 0 ++ [99, 130, 83, 99] := by
  have h0 := bA_in hb 0
  have h2 := bA_in hb 2
  have hw := hw_len hl hn
  have e0 : bA l 0 % 256 = bA l 0 := by omega
  have e2 : ((hwOf l).length : Int) % 256 = bA l 2 := by rw [hw]; omega
  unfold headOf pkHead pkB pkA pkC
  simp only [List.take_succ_cons, List.take_zero, List.map_cons, List.map_nil, List.flatten_cons, List.flatten_nil, List.append_nil]
  rw [pk4_l hb, pk4_l hb, pk4_l hb, pk4_l hb, pk4_l hb, pk2_s hb, pk2_s hb, e0, e2, hw]
  first
    | rfl
    | simp [List.append_assoc, show ∀ n : Nat, (16 - n) + 192 = 208 - n ∨ True from fun _ => .inr trivial]
    | skip
theorem ck_iff {l : List Int} (hb : bytesL l) : lA l 236 = 1669485411 ↔ [bA l 236, bA l 237, bA l 238, bA l 239] = [99, 130, 83, 99] := by
  have h0 := bA_in hb 236
  have h1 := bA_in hb 237
  have h2 := bA_in hb 238
  have h3 := bA_in hb 239
  simp only [List.cons.injEq, and_true]
  rw [show lA l 236 = (bA l 236 * 256 + bA l 237) * 65536 + (bA l 238 * 256 + bA l 239) from rfl]
  constructor
  · intro h
    exact ⟨by omega, by omega, by omega, by omega⟩
  · rintro ⟨h4, h5, h6, h7⟩
    omega
theorem head_iff {l : List Int} (hb : bytesL l) (hl : 240 ≤ l.length) (hn : bA l 2 ≤ 16) : headOf l = l.take 240 ↔ (bA l 1 = 1 ∧ bA l 3 = 0 ∧ (∀ x ∈ padOf l, x = 0) ∧ lA l 236 = 1669485411) := by
  have h2 := bA_in hb 2
  have hpl : (padOf l).length = 208 - (bA l 2).toNat := by unfold padOf; rw [List.length_take, List.length_drop]; omega
  rw [head_of hb hl hn, take_240 hl hn h2.1, ck_iff hb]
  constructor
  · intro h
    obtain ⟨h1, hc⟩ := List.append_inj' h rfl
    obtain ⟨h2, hp⟩ := List.append_inj' h1 (by rw [List.length_replicate, hpl])
    obtain ⟨h3, _⟩ := List.append_inj' h2 rfl
    simp only [List.cons_append, List.nil_append, List.cons.injEq] at h3
    refine ⟨h3.2.1.symm, h3.2.2.2.1.symm, fun x hx => ?_, hc.symm⟩
    rw [← hp] at hx
    exact (List.mem_replicate.1 hx).2
  · rintro ⟨h1, h3, hp, hc⟩
    rw [h1, h3, hc, List.eq_replicate_iff.2 ⟨hpl, hp⟩]

/-! ### Decode -/
theorem decode_eq (l : List Int) (hb : bytesL l) (hl : l.length < 1099511627776) : packet_Decode.f l = some (pdR l) := if_pos ⟨hb, hl⟩
theorem head_len {l : List Int} (hl : 240 ≤ l.length) (hn : bA l 2 ≤ 16) (hn0 : 0 ≤ bA l 2) : (headOf l).length = 240 := by
  have hw := hw_len hl hn
  unfold headOf pkHead pkB pkA pkC
  simp [pk4_len, pk2, hw]
  omega
theorem bytes_head {l : List Int} (hb : bytesL l) (hl : 240 ≤ l.length) (hn : bA l 2 ≤ 16) : bytesL (headOf l) := by
  rw [head_of hb hl hn]
  intro x hx
  simp only [List.mem_append, List.mem_cons, List.not_mem_nil, or_false] at hx
  have hwb : ∀ y ∈ hwOf l, 0 ≤ y ∧ y ≤ 255 := fun y hy => hb y (List.mem_of_mem_drop (List.mem_of_mem_take hy))
  have hz : ∀ y ∈ List.replicate (208 - (bA l 2).toNat) (0 : Int), 0 ≤ y ∧ y ≤ 255 := fun y hy => by rw [(List.mem_replicate.1 hy).2]; omega
  have hA := fun j => bA_in hb j
  repeat' (first | (rcases hx with hx | hx) | (rcases hx with rfl | hx))
  all_goals first | exact hwb _ hx | exact hz _ hx | (subst hx; first | exact hA _ | omega) | exact hA _ | omega
/-! ### what is encoded is decoded -/
theorem bytes_app {a b : List Int} (ha : bytesL a) (hb : bytesL b) : bytesL (a ++ b) := fun x hx => by
  rcases List.mem_append.1 hx with h | h
  · exact ha x h
  · exact hb x h
theorem bytes_pk2 (n : Int) : bytesL (pk2 n) := by
  intro x hx
  simp only [pk2, List.mem_cons, List.not_mem_nil, or_false] at hx
  rcases hx with rfl | rfl <;> omega
theorem bytes_pk4 (n : Int) : bytesL (pk4 n) := bytes_app (bytes_pk2 _) (bytes_pk2 _)
theorem bytes_zeros (n : Nat) : bytesL (List.replicate n 0) := fun x hx => by rw [(List.mem_replicate.1 hx).2]; omega
theorem bytes_pkHead (a0 a1 a2 a3 a4 a5 a6 a7 : Int) {l8 : List Int} (hb : bytesL l8) : bytesL (pkHead a0 a1 a2 a3 a4 a5 a6 a7 l8) := by
  unfold pkHead pkB pkA pkC
  have hh : bytesL [a0 % 256, 1, (l8.length : Int) % 256, 0] := by
    intro x hx
    simp only [List.mem_cons, List.not_mem_nil, or_false] at hx
    rcases hx with rfl | rfl | rfl | rfl <;> omega
  have hc : bytesL (List.map pk4 ([a4, a5, a6, a7].take 4)).flatten := by
    intro x hx
    obtain ⟨y, hy, hxy⟩ := List.mem_flatten.1 hx
    obtain ⟨z, _, rfl⟩ := List.mem_map.1 hy
    exact bytes_pk4 z x hxy
  exact bytes_app (bytes_app (bytes_app (bytes_app (bytes_app (bytes_app (bytes_app hh (bytes_pk4 _)) (bytes_pk2 _)) (bytes_pk2 _)) hc) hb) (bytes_zeros _)) (bytes_pk4 _)
theorem pkHead_len (a0 a1 a2 a3 a4 a5 a6 a7 : Int) {l8 : List Int} (h : l8.length ≤ 16) : (pkHead a0 a1 a2 a3 a4 a5 a6 a7 l8).length = 240 := by
  unfold pkHead pkB pkA pkC
  simp [pk4_len, pk2]
  omega
theorem pkHead_cons (a0 a1 a2 a3 a4 a5 a6 a7 : Int) (l8 t : List Int) : pkHead a0 a1 a2 a3 a4 a5 a6 a7 l8 ++ t =
    a0 % 256 :: 1 :: (l8.length : Int) % 256 :: 0 :: a1 / 65536 / 256 % 256 :: a1 / 65536 % 256 :: a1 % 65536 / 256 % 256 :: a1 % 65536 % 256 :: a2 / 256 % 256 :: a2 % 256 :: a3 / 256 % 256 :: a3 % 256 ::
    a4 / 65536 / 256 % 256 :: a4 / 65536 % 256 :: a4 % 65536 / 256 % 256 :: a4 % 65536 % 256 :: a5 / 65536 / 256 % 256 :: a5 / 65536 % 256 :: a5 % 65536 / 256 % 256 :: a5 % 65536 % 256 ::
    a6 / 65536 / 256 % 256 :: a6 / 65536 % 256 :: a6 % 65536 / 256 % 256 :: a6 % 65536 % 256 :: a7 / 65536 / 256 % 256 :: a7 / 65536 % 256 :: a7 % 65536 / 256 % 256 :: a7 % 65536 % 256 ::
    (l8 ++ (List.replicate (208 - l8.length) 0 ++ (pk4 1669485411 ++ t))) := by
  unfold pkHead pkB pkA pkC
  simp only [List.take_succ_cons, List.take_zero, List.map_cons, List.map_nil, List.flatten_cons, List.flatten_nil, List.append_nil, List.append_assoc]
  rfl
theorem four_back {a : Int} (h : 0 ≤ a ∧ a < 4294967296) : (a / 65536 / 256 % 256 * 256 + a / 65536 % 256) * 65536 + (a % 65536 / 256 % 256 * 256 + a % 65536 % 256) = a := by omega
theorem pd_enc (a0 a1 a2 a3 a4 a5 a6 a7 : Int) (l8 t : List Int) (h0 : a0 = 1 ∨ a0 = 2) (h8 : 1 ≤ l8.length ∧ l8.length ≤ 16) (h2 : 0 ≤ a2 ∧ a2 ≤ 65535) (h3 : 0 ≤ a3 ∧ a3 ≤ 65535) (hu : pkOk a1 a4 a5 a6 a7) (hb8 : bytesL l8) (hbt : bytesL t) (ho : (odR t).2 = 0) :
    pdR (pkHead a0 a1 a2 a3 a4 a5 a6 a7 l8 ++ t) = (a0, a1, a2, a3, a4, a5, a6, a7, l8, (odR t).1, 0) := by
  obtain ⟨hu1, hu4, hu5, hu6, hu7⟩ := hu
  obtain ⟨c, hc⟩ : ∃ c, c = pkHead a0 a1 a2 a3 a4 a5 a6 a7 l8 ++ t := ⟨_, rfl⟩
  have hcc := hc.trans (pkHead_cons a0 a1 a2 a3 a4 a5 a6 a7 l8 t)
  have hbc : bytesL c := by rw [hc]; exact bytes_app (bytes_pkHead _ _ _ _ _ _ _ _ hb8) hbt
  have hlh := pkHead_len a0 a1 a2 a3 a4 a5 a6 a7 h8.2
  have b0 : bA c 0 = a0 := by
    have : bA c 0 = a0 % 256 := by rw [hcc]; rfl
    rw [this]; rcases h0 with rfl | rfl <;> rfl
  have b2 : bA c 2 = (l8.length : Int) := by
    have : bA c 2 = (l8.length : Int) % 256 := by rw [hcc]; rfl
    rw [this]; omega
  have x1 : lA c 4 = a1 := by
    have : lA c 4 = (a1 / 65536 / 256 % 256 * 256 + a1 / 65536 % 256) * 65536 + (a1 % 65536 / 256 % 256 * 256 + a1 % 65536 % 256) := by rw [hcc]; rfl
    rw [this, four_back hu1]
  have x4 : lA c 12 = a4 := by
    have : lA c 12 = (a4 / 65536 / 256 % 256 * 256 + a4 / 65536 % 256) * 65536 + (a4 % 65536 / 256 % 256 * 256 + a4 % 65536 % 256) := by rw [hcc]; rfl
    rw [this, four_back hu4]
  have x5 : lA c 16 = a5 := by
    have : lA c 16 = (a5 / 65536 / 256 % 256 * 256 + a5 / 65536 % 256) * 65536 + (a5 % 65536 / 256 % 256 * 256 + a5 % 65536 % 256) := by rw [hcc]; rfl
    rw [this, four_back hu5]
  have x6 : lA c 20 = a6 := by
    have : lA c 20 = (a6 / 65536 / 256 % 256 * 256 + a6 / 65536 % 256) * 65536 + (a6 % 65536 / 256 % 256 * 256 + a6 % 65536 % 256) := by rw [hcc]; rfl
    rw [this, four_back hu6]
  have x7 : lA c 24 = a7 := by
    have : lA c 24 = (a7 / 65536 / 256 % 256 * 256 + a7 / 65536 % 256) * 65536 + (a7 % 65536 / 256 % 256 * 256 + a7 % 65536 % 256) := by rw [hcc]; rfl
    rw [this, four_back hu7]
  have x2 : sA c 8 = a2 := by
    have : sA c 8 = a2 / 256 % 256 * 256 + a2 % 256 := by rw [hcc]; rfl
    rw [this]; omega
  have x3 : sA c 10 = a3 := by
    have : sA c 10 = a3 / 256 % 256 * 256 + a3 % 256 := by rw [hcc]; rfl
    rw [this]; omega
  have hw : hwOf c = l8 := by
    unfold hwOf
    rw [b2, Int.toNat_natCast]
    have : c.drop 28 = l8 ++ (List.replicate (208 - l8.length) 0 ++ (pk4 1669485411 ++ t)) := by rw [hcc]; rfl
    rw [this, List.take_left]
  have hl : 240 ≤ c.length := by rw [hc, List.length_append]; omega
  have hh : headOf c = c.take 240 := by
    unfold headOf
    rw [b0, x1, x2, x3, x4, x5, x6, x7, hw, hc, List.take_append_of_le_length (by omega), List.take_of_length_le (by omega)]
  have hd : c.drop 240 = t := by rw [hc, List.drop_append_of_le_length (by omega), List.drop_of_length_le (by omega)]; rfl
  have hn : bA c 2 ≤ 16 := by rw [b2]; omega
  obtain ⟨g1, g3, gp, gc⟩ := (head_iff hbc hl hn).1 hh
  rw [← hc]
  unfold pdR
  rw [if_pos ⟨⟨hl, g1, hn, g3, gp, gc, by rw [hd]; exact ho⟩, by rw [b0]; exact h0, by rw [b2]; omega⟩, b0, x1, x2, x3, x4, x5, x6, x7, hw, hd]
theorem enc_two (l : List OptP) : l.length * 2 ≤ (PD.enc l).length := by
  induction l with
  | nil => simp
  | cons x l ih =>
    have : PD.enc (x :: l) = PD.enc1 x ++ PD.enc l := by simp [PD.enc]
    rw [this, List.length_append, PD.enc1_len, List.length_cons]
    omega
theorem few_of {os : List OptP} (ok : ∀ x ∈ os, PD.okOpt x) (h : (PD.enc os).length + 1 ≤ 1024) : PO.few os := by
  have := enc_two os
  exact ⟨by omega, fun x hx => by have := (ok x hx).2.2; omega⟩
theorem bytes_enc {os : List OptP} (hb : ∀ x ∈ os, bytesL x.f1) : bytesL (PD.enc os ++ [255]) := bytes_app (PD.enc_bytes os hb) (fun x hx => by rw [List.mem_singleton.1 hx]; omega)
end Go.Proofs.YtdpoknfidlekbaaDoor.PQ
end

section
namespace Go.Proofs.YtdpoknfidlekbaaDoor.PQ
open Go.RowKit Go.Proofs.YtdpoknfidlekbaaDoor Go.Proofs.YtdpoknfidlekbaaDoor.Pr Go.Proofs.YtdpoknfidlekbaaDoorW.PrintWords Go.Proofs.YtdpoknfidlekbaaDoorW.PrintLast Go.Proofs.YtdpoknfidlekbaaDoorW.PrintMore
set_option linter.unusedVariables false
set_option linter.unusedSimpArgs false

theorem back_pure (l : List Int) (hb : bytesL l) (hl : l.length ≤ 3000) : pdR l = (0, 0, 0, 0, 0, 0, 0, 0, [], [], 2) ∨
    ∃ b0 b1 b2 b3 b4 b5 b6 b7 m8 m9 ds, pdR l = (b0, b1, b2, b3, b4, b5, b6, b7, m8, m9, 0) ∧ pkOk b1 b4 b5 b6 b7 ∧ PO.few m9 ∧ m9.length ≤ 1000000 ∧ PP.encPk b0 b1 b2 b3 b4 b5 b6 b7 m8 m9 = (ds, 0) ∧ bytesL ds ∧ 240 ≤ ds.length ∧ ds.length ≤ l.length ∧ ds.take 240 = l.take 240 ∧ pdR ds = (b0, b1, b2, b3, b4, b5, b6, b7, m8, m9, 0) := by
  by_cases c : rdOk l ∧ (bA l 0 = 1 ∨ bA l 0 = 2) ∧ 1 ≤ bA l 2
  · right
    have e : pdR l = (bA l 0, lA l 4, sA l 8, sA l 10, lA l 12, lA l 16, lA l 20, lA l 24, hwOf l, (odR (l.drop 240)).1, 0) := if_pos c
    obtain ⟨⟨hl2, g1, hn, g3, gp, gc, go⟩, h01, h12⟩ := c
    have h2 := bA_in hb 2
    rcases odR_cases (l.drop 240) (fun x hx => hb x (List.mem_of_mem_drop hx)) with e1 | ⟨os, e1, ok, hlen, h1024, hob⟩
    · rw [e1] at go; cases go
    rw [e1] at e
    simp only at e
    rw [List.length_drop] at hlen h1024
    have hen := encR_of ok (by omega)
    have a4 := lA_in hb 4
    have a12 := lA_in hb 12
    have a16 := lA_in hb 16
    have a20 := lA_in hb 20
    have a24 := lA_in hb 24
    have hu : pkOk (lA l 4) (lA l 12) (lA l 16) (lA l 20) (lA l 24) := ⟨by omega, by omega, by omega, by omega, by omega⟩
    have hpk : PP.okPk (bA l 0) (sA l 8) (sA l 10) (hwOf l) os := (okPk_of hb hl2 hn os (by rw [hen])).2 ⟨h01, h12⟩
    have hh : pkHead (bA l 0) (lA l 4) (sA l 8) (sA l 10) (lA l 12) (lA l 16) (lA l 20) (lA l 24) (hwOf l) = headOf l := rfl
    have hwl := hw_len hl2 hn
    have hod := odR_enc os ok (by omega)
    have hlh := head_len hl2 hn h2.1
    have hbw : bytesL (hwOf l) := fun x hx => hb x (List.mem_of_mem_drop (List.mem_of_mem_take hx))
    have hdec := pd_enc (bA l 0) (lA l 4) (sA l 8) (sA l 10) (lA l 12) (lA l 16) (lA l 20) (lA l 24) (hwOf l) (PD.enc os ++ [255]) h01 ⟨by omega, by omega⟩ (sA_in hb 8) (sA_in hb 10) hu hbw (bytes_enc hob) (by rw [hod])
    rw [hh, hod] at hdec
    have hos := enc_two os
    refine ⟨_, _, _, _, _, _, _, _, _, _, headOf l ++ (PD.enc os ++ [255]), e, hu, few_of ok (by omega), by omega, ?_, bytes_app (bytes_head hb hl2 hn) (bytes_enc hob), by simp; omega, by simp; omega, ?_, hdec⟩
    · unfold PP.encPk
      rw [if_pos hpk, hen, hh]
    · rw [List.take_append_of_le_length (by omega), List.take_of_length_le (by omega)]
      exact (head_iff hb hl2 hn).2 ⟨g1, g3, gp, gc⟩
  · exact .inl (if_neg c)
theorem enc_back (a0 a1 a2 a3 a4 a5 a6 a7 : Int) (l8 : List Int) (l9 : List OptP) (hu : pkOk a1 a4 a5 a6 a7) (hb8 : bytesL l8) (hb9 : ∀ x ∈ l9, bytesL x.f1) : PP.encPk a0 a1 a2 a3 a4 a5 a6 a7 l8 l9 = ([], 1) ∨
    ∃ cs, PP.encPk a0 a1 a2 a3 a4 a5 a6 a7 l8 l9 = (cs, 0) ∧ bytesL cs ∧ cs.length < 1099511627776 ∧ pdR cs = (a0, a1, a2, a3, a4, a5, a6, a7, l8, l9, 0) := by
  by_cases cp : PP.okPk a0 a2 a3 l8 l9
  · right
    obtain ⟨k0, k8, k2, k3, ke⟩ := id cp
    obtain ⟨ok, hlen, hen⟩ := encR_ok ke
    have hod := odR_enc l9 ok hlen
    have hdec := pd_enc a0 a1 a2 a3 a4 a5 a6 a7 l8 (PD.enc l9 ++ [255]) k0 k8 k2 k3 hu hb8 (bytes_enc hb9) (by rw [hod])
    rw [hod] at hdec
    have hlh := pkHead_len a0 a1 a2 a3 a4 a5 a6 a7 k8.2
    refine ⟨_, by unfold PP.encPk; rw [if_pos cp, hen], bytes_app (bytes_pkHead _ _ _ _ _ _ _ _ hb8) (bytes_enc hb9), by simp; omega, hdec⟩
  · exact .inl (if_neg cp)
end Go.Proofs.YtdpoknfidlekbaaDoor.PQ
end

section
namespace Go.Proofs.YtdpoknfidlekbaaDoor
open Go.RowKit Go.Proofs.YtdpoknfidlekbaaDoor.Pr Go.Proofs.YtdpoknfidlekbaaDoorW.PrintWords Go.Proofs.YtdpoknfidlekbaaDoorW.PrintLast Go.Proofs.YtdpoknfidlekbaaDoorW.PrintMore
attribute [local go_sem] max2_int min2_int max_two min_two max_three min_three max_four min_four
set_option linter.unusedVariables false
set_option linter.unusedSimpArgs false

abbrev OptF := S53
/-- A call of a function value that stands in a slot, one argument. -/
theorem goesv1 {P : Program} {ops : Array Oper} {Q : Exit → Act → World → Prop} {rest : List Oper} {oi : Oper} {a : Act} {w : World} (N : Option Tmp) (hd : oi.dst = N) (hg : oi.guard = none) {gf : Nat} {lb : Array Value} (c x : Operand) (ts : Array TypeId)
    (hop : oi.op = .call { callee := .value c, args := #[x], argTypes := ts }) (hc : a.eval c = .func (.func gf) #[] lb) {v : Value} (hx : a.eval x = v) (eg : ∀ args w, (callFunc gf args).run P w = .ok (.enter gf args) w)
    (h : Calls P gf (#[v] ++ lb) w fun e w' => ∃ u, e = .returned u ∧ wpList P ops Q rest (a.put N u) w') : wpList P ops Q (oi :: rest) a w := by
  refine wpList_plain hg fun K hK => ?_
  unfold Oper.wp
  have he := eg (#[v] ++ lb) w
  have hrun : (execOp a.eval oi).run P w = .ok (.enter gf (#[v] ++ lb)) w := by
    unfold execOp
    simp [hop, resolve, Deferred.ofValue, invoke, hc, hx, he]
  rw [hrun, Oper.upon_enter]
  refine h.mono fun e w'' hh => ?_
  obtain ⟨u, rfl, hk⟩ := hh
  subst hd
  exact hK _ _ hk

theorem rd_opt (l : List OptF) {i : Nat} (h : i < l.length) : rd_T53 l (i : Int) = l[i] := by
  unfold rd_T53
  rw [Int.toNat_natCast, List.getD_eq_getElem?_getD, List.getElem?_eq_getElem h]; rfl
/-- The option that is to come. -/
theorem at_opt {w : World} {A : Option Addr} {l : List OptF} (hC : Kd.C k53 w A l.length l) {k : Nat} (hk : k < l.length) :
    ∃ ad A1 c1, A = some ad ∧ w.cell? (ad.add (k * 2)) = some (.int .i64 l[k].f0) ∧ w.cell? ⟨(ad.add (k * 2)).block, (ad.add (k * 2)).off + 1, none⟩ = some (.slice A1 l[k].f1.length c1) ∧ l[k].f1.length ≤ c1 ∧ (Kd.int .u8).C w A1 l[k].f1.length l[k].f1 := by
  have := at_T53 hC (k : Int) (by omega) (by omega)
  rw [rd_opt l hk, Int.toNat_natCast] at this
  exact this

/-- The place of the first one of which something is true; below 0: there is none. -/
def ixOf (p : OptF → Bool) (l : List OptF) : Int := if l.findIdx p < l.length then (l.findIdx p : Int) else -1
theorem ix_at {p : OptF → Bool} {l : List OptF} {k : Nat} (hk : k < l.length) (h0 : ∀ x ∈ l.take k, p x = false) (h1 : p l[k] = true) : ixOf p l = k := by
  have e : l.findIdx p = k := by
    rw [List.findIdx_eq hk]
    refine ⟨h1, fun j hj => ?_⟩
    exact h0 _ (by rw [List.mem_iff_getElem]; exact ⟨j, by rw [List.length_take]; omega, by rw [List.getElem_take]⟩)
  unfold ixOf
  rw [e, if_pos hk]
theorem ix_none {p : OptF → Bool} {l : List OptF} (h0 : ∀ x ∈ l, p x = false) : ixOf p l = -1 := by
  unfold ixOf
  rw [if_neg]
  intro h
  have := List.findIdx_getElem (w := h)
  rw [h0 _ (List.getElem_mem _)] at this
  cases this

set_option maxHeartbeats 2000000 in
set_option maxRecDepth 100000 in
theorem ix_calls (p : OptF → Bool) (gf : Nat) (lb : Array Value) (eg : ∀ args w, (callFunc gf args).run Tryd.prog w = .ok (.enter gf args) w) (A : Option Addr) (c : Nat) (l : List OptF) (w : World) (hC : Kd.C k53 w A l.length l) (hc : l.length ≤ c)
    (hcl : ∀ (k : Nat) (hk : k < l.length) (A1 : Option Addr) (c1 : Nat) (W : World), Below w.heap.size w W → Calls Tryd.prog gf (#[.agg #[.int .i64 l[k].f0, .slice A1 l[k].f1.length c1]] ++ lb) W fun e W' => e = .returned (.bool (p l[k])) ∧ Below W.heap.size W W') :
    Calls Tryd.prog 18 #[.slice A l.length c, .func (.func gf) #[] lb] w fun e w' => e = .returned (.int .i64 (ixOf p l)) ∧ Below w.heap.size w w' := by
  have HC := Lib.hid hC
  have HE := Lib.hid eg
  have HCL := Lib.hid hcl
  have hl : l.length ≤ 9223372036854775807 := hC.2.1
  clear hC eg hcl
  go_enter Tryd.func18, Tryd.ntmps18
  go_wp2_with fail
  go_loopw [8] (fun i wr => ∃ k : Nat, k ≤ l.length ∧ i = .int .i64 k ∧ Hid (∀ x ∈ l.take k, p x = false) ∧ Hid (Below w.heap.size w wr)) (fun i _ => l.length - (intOf i).toNat)
  case atStart => exact ⟨0, Nat.zero_le _, rfl, by show ∀ x ∈ l.take 0, p x = false; simp, Below.refl _ _⟩
  case round =>
    obtain ⟨k, hk, rfl, HP, HW⟩ := hrel
    by_cases hlt : k < l.length
    · obtain ⟨ad, A1, c1, rfl, hx0, hx1, _, _⟩ := at_opt HC.out hlt
      have HK := Lib.hid (HCL.out k hlt A1 c1 wr HW.out)
      obtain ⟨x, hx⟩ : ∃ x, x = l[k] := ⟨_, rfl⟩
      rw [← hx] at hx0 hx1 HK
      have HX := Lib.hid hx
      clear hx
      replace hx0 := (HW.out.cell (World.block_lt_of_cell? w _ hx0)).trans hx0
      replace hx1 := (HW.out.cell (World.block_lt_of_cell? w _ hx1)).trans hx1
      have p1 : (0 ≤ (k : Int)) = True := eq_true (by omega)
      have p2 : ((k : Int) < (l.length : Int)) = True := eq_true (by omega)
      go_wp2_with (first
        | (with_reducible refine goesv1 (oi := ⟨some 16, _, _, _, _, _⟩) (some 16) rfl rfl (.tmp 11) (.tmp 15) #[53] rfl rfl rfl HE.out ?_)
        | fail)
      refine HK.out.mono ?_
      rintro e W1 ⟨rfl, hb⟩
      refine ⟨_, rfl, ?_⟩
      have HW1 := Lib.hid (HW.out.trans (hb.mono HW.out.size))
      clear hb HK
      cases hp : p x with
      | true =>
        have HI : Hid (ixOf p l = k) := ix_at hlt HP.out (by rw [← HX.out]; exact hp)
        clear hp
        go_wp2_with fail
        go_ret
        exact ⟨by rw [HI.out]; rfl, HW1.out⟩
      | false =>
        have HP1 : Hid (∀ y ∈ l.take (k + 1), p y = false) := by
          intro y hy
          rw [List.take_succ_eq_append_getElem hlt] at hy
          rcases List.mem_append.1 hy with hy | hy
          · exact HP.out y hy
          · rw [List.mem_singleton.1 hy, ← HX.out]; exact hp
        clear hp
        go_wp2_with fail
        go_roundw
        case rel => exact ⟨k + 1, by omega, by go_num, HP1, HW1⟩
        case measure => simp [intOf]; omega
    · have p2 : ((k : Int) < (l.length : Int)) = False := eq_false (by omega)
      have HI : Hid (ixOf p l = -1) := ix_none (fun x hx => HP.out x (by rwa [List.take_of_length_le (by omega)]))
      go_wp2_with fail
      go_ret
      exact ⟨by rw [HI.out]; rfl, HW.out⟩

theorem of_calls (code : Int) (w : World) : Calls Tryd.prog 19 #[.int .i64 code] w fun e w' => e = .returned (.func (.func 30) #[] #[.pointer (some ⟨w.heap.size, 0, none⟩)]) ∧ w' = w.alloc (.cells #[.int .i64 code] 3) := by
  go_enter Tryd.func19, Tryd.ntmps19
  go_wp2
  go_ret
  exact ⟨rfl, rfl⟩
theorem enters_of : ∀ args w, (callFunc 30 args).run Tryd.prog w = .ok (.enter 30 args) w := fun args w => enters_ Tryd.func30 (by kernel_rfl) rfl args w
theorem of1_calls (b : Nat) (code n : Int) (A1 : Option Addr) (m c1 : Nat) (W : World) (hb : Boxed W b 3 (.int .i64 code)) :
    Calls Tryd.prog 30 #[.agg #[.int .i64 n, .slice A1 m c1], .pointer (some ⟨b, 0, none⟩)] W fun e W' => e = .returned (.bool (n == code)) ∧ Below W.heap.size W W' := by
  have y1 := hb.cell
  have y2 := (hb.alloc (.cells #[.int .i64 n, .slice A1 m c1] 53)).cell
  clear hb
  go_enter Tryd.func30, Tryd.ntmps30
  go_wp2_with fail
  go_ret
  exact ⟨rfl, below_alloc (Below.refl _ _) _⟩

/-! ### option.Find -/
def opFind (l : List OptF) (code : Int) : List Int × Bool := match l.find? (fun x => x.f0 == code) with | some x => (x.f1, true) | none => ([], false)
theorem find_ix {l : List OptF} {code : Int} (h : 0 ≤ ixOf (fun x => x.f0 == code) l) : ∃ (k : Nat) (hk : k < l.length), ixOf (fun x => x.f0 == code) l = k ∧ opFind l code = (l[k].f1, true) := by
  unfold ixOf at h ⊢
  by_cases hk : l.findIdx (fun x => x.f0 == code) < l.length
  · rw [if_pos hk]
    refine ⟨_, hk, rfl, ?_⟩
    unfold opFind
    rw [List.find?_eq_some_iff_getElem (p := fun x : OptF => x.f0 == code) |>.2 ⟨List.findIdx_getElem (w := hk), _, hk, rfl, fun j hj => by simpa using List.not_of_lt_findIdx hj⟩]
  · rw [if_neg hk] at h
    omega
theorem find_no {l : List OptF} {code : Int} (h : ixOf (fun x => x.f0 == code) l < 0) : ixOf (fun x => x.f0 == code) l = -1 ∧ opFind l code = ([], false) := by
  unfold ixOf at h ⊢
  by_cases hk : l.findIdx (fun x => x.f0 == code) < l.length
  · rw [if_pos hk] at h; omega
  · rw [if_neg hk]
    refine ⟨rfl, ?_⟩
    unfold opFind
    rw [List.find?_eq_none.2]
    intro x hx hp
    exact hk (List.findIdx_lt_length_of_exists ⟨x, hx, hp⟩)
def option_Find.f (l0 : List OptF) (a1 : Int) : Option (List Int × Bool) := if ∀ x ∈ l0, x.f1.length < 140737488355328 then some (opFind l0 a1) else none
set_option maxHeartbeats 2000000 in
set_option maxRecDepth 100000 in
theorem option_Find.calls (A0 : Option Addr) (c0 : Nat) (l0 : List OptF) (a1 : Int) (r1 : List Int) (r2 : Bool) (w : World) (hr0 : Kd.C k53 w A0 l0.length l0) (hc0 : l0.length ≤ c0) (h : option_Find.f l0 a1 = some (r1, r2)) :
    Calls Tryd.prog 9 #[.slice A0 l0.length c0, .int .i64 a1] w fun e w' => ∃ v0_ : Value, e = .returned (.tuple #[v0_, .bool r2]) ∧ Kd.R (Kd.int .u8) 5 w' w.heap.size (fun _ => True) v0_ r1 ∧ Below w.heap.size w w' := by
  unfold option_Find.f at h
  split at h
  case isFalse => cases h
  rename_i hcond
  have HD := Lib.hid hcond
  have HR : Hid (opFind l0 a1 = (r1, r2)) := Option.some.inj h
  have HC := Lib.hid hr0
  have hl : l0.length ≤ 9223372036854775807 := hr0.2.1
  have HB0 := Lib.hid (below_alloc (Below.refl w.heap.size w) (.cells #[.int .i64 a1] 3))
  have HIX : Hid (Calls Tryd.prog 18 #[.slice A0 l0.length c0, .func (.func 30) #[] #[.pointer (some ⟨w.heap.size, 0, none⟩)]] (w.alloc (.cells #[.int .i64 a1] 3)) fun e w' => e = .returned (.int .i64 (ixOf (fun x => x.f0 == a1) l0)) ∧ Below (w.alloc (.cells #[.int .i64 a1] 3)).heap.size (w.alloc (.cells #[.int .i64 a1] 3)) w') :=
    ix_calls (fun x => x.f0 == a1) _ _ enters_of A0 c0 l0 _ (Kd.C_alloc hr0 _) hc0 (fun k hk A1 c1 W hW => of1_calls w.heap.size a1 _ A1 _ c1 W ((hW.block _ (by simp)).trans (Boxed.new w _ _)))
  clear hcond h hr0
  obtain ⟨ix, hix⟩ : ∃ ix, ixOf (fun x : OptF => x.f0 == a1) l0 = ix := ⟨_, rfl⟩
  rw [hix] at HIX
  by_cases hneg : ix < 0
  · obtain ⟨e1, e2⟩ := find_no (l := l0) (code := a1) (by rw [hix]; exact hneg)
    obtain ⟨rfl, rfl⟩ := Prod.mk.inj (e2.symm.trans HR.out)
    clear e1 e2 HR hix
    go_enter Tryd.func9, Tryd.ntmps9
    go_wp2_with (first
      | (go_at_call 19; refine (of_calls a1 _).mono ?_; rintro e w' ⟨rfl, rfl⟩)
      | (go_at_call 18; (with_reducible refine HIX.out.mono ?_); rintro e w2 ⟨rfl, hb⟩; have HB := Lib.hid (HB0.out.trans (hb.mono HB0.out.size)); clear hb)
      | fail)
    go_ret2
    exact ⟨_, rfl, Kd.R_nil _ _ _ _ _, HB.out⟩
  · obtain ⟨k, hk, e1, e2⟩ := find_ix (l := l0) (code := a1) (by rw [hix]; omega)
    obtain ⟨rfl, rfl⟩ := Prod.mk.inj (e2.symm.trans HR.out)
    obtain rfl : ix = (k : Int) := hix.symm.trans e1
    obtain ⟨ad, A1, c1, rfl, hx0, hx1, hx2, hx3⟩ := at_opt HC.out hk
    have HX2 := Lib.hid hx2
    have HX3 := Lib.hid hx3
    have HL := Lib.hid (HD.out l0[k] (List.getElem_mem hk))
    obtain ⟨x, hx⟩ : ∃ x, x = l0[k].f1 := ⟨_, rfl⟩
    rw [← hx] at hx1 HX2 HX3 HL ⊢
    clear e1 e2 HR hix hx hx0 hx2 hx3
    have p1 : (0 ≤ (k : Int)) = True := eq_true (by omega)
    have p2 : ((k : Int) < (l0.length : Int)) = True := eq_true (by omega)
    go_enter Tryd.func9, Tryd.ntmps9
    go_wp2_with (first
      | (go_at_call 19; refine (of_calls a1 _).mono ?_; rintro e w' ⟨rfl, rfl⟩)
      | (go_at_call 18; (with_reducible refine HIX.out.mono ?_); rintro e w2 ⟨rfl, hb⟩; have HB := Lib.hid (HB0.out.trans (hb.mono HB0.out.size)); clear hb; have x1 := (HB.out.cell (World.block_lt_of_cell? w _ hx1)).trans hx1; have HCL := Lib.hid (clone_calls A1 c1 x w2 (Kd.C_below HX3.out HB.out) HX2.out HL.out))
      | (go_at_call 17; (with_reducible refine HCL.out.mono ?_); rintro e w3 ⟨v3, rfl, h3, b3⟩; have HR3 := Lib.hid (Kd.R_lower h3 HB.out.size); have HB3 := Lib.hid (HB.out.trans (b3.mono HB.out.size)); clear h3 b3)
      | fail)
    go_ret2
    exact ⟨_, rfl, HR3.out, HB3.out⟩
end Go.Proofs.YtdpoknfidlekbaaDoor
end

section
namespace Go.Proofs.YtdpoknfidlekbaaDoor.Pr
open Go.RowKit Go.Proofs.YtdpoknfidlekbaaDoorW.PrintWords Go.Proofs.YtdpoknfidlekbaaDoorW.PrintLast Go.Proofs.YtdpoknfidlekbaaDoorW.PrintMore
set_option linter.unusedVariables false

theorem k53_openF {W : World} {ok : Nat → Prop} {x : S53} {cs : List Value} (h : Kd.FK k53 W ok x cs) : ∃ A1 c1, cs = [.int .i64 x.f0, .slice A1 x.f1.length c1] ∧ x.f1.length ≤ c1 ∧ Kd.F (Kd.int .u8) W ok A1 x.f1.length x.f1 := by
  obtain ⟨A1, c1, rfl, l1, _⟩ := k53_open (Kd.FK_now h)
  exact ⟨A1, c1, rfl, l1, (fun W' hW => by obtain ⟨A1_, c1_, he, l1_, g1_⟩ := k53_open (h W' hW); injection (Option.some.inj (show some (Value.slice A1 x.f1.length c1) = some (Value.slice A1_ x.f1.length c1_) from congrArg (fun l => l[1]?) he)) with ha_ _ _; rw [ha_]; exact g1_)⟩
theorem k53_mkF (W : World) (ok : Nat → Prop) (x : S53) {A1 : Option Addr} {c1 : Nat} (l1 : x.f1.length ≤ c1) (g1 : Kd.F (Kd.int .u8) W ok A1 x.f1.length x.f1) : Kd.FK k53 W ok x [.int .i64 x.f0, .slice A1 x.f1.length c1] := fun W2 hW => k53_mk W2 x l1 (g1 W2 hW)
end Go.Proofs.YtdpoknfidlekbaaDoor.Pr
end

section
namespace Go.Proofs.YtdpoknfidlekbaaDoor
open Go.RowKit Go.Proofs.YtdpoknfidlekbaaDoor.Pr Go.Proofs.YtdpoknfidlekbaaDoorW.PrintWords Go.Proofs.YtdpoknfidlekbaaDoorW.PrintLast Go.Proofs.YtdpoknfidlekbaaDoorW.PrintMore
set_option linter.unusedVariables false
set_option linter.unusedSimpArgs false

theorem o_below_grown {w W W1 : World} {row : Option Nat} (hb : Below w.heap.size w W) (hg : W.grownBy W1 row) (h : ∀ k, row = some k → w.heap.size ≤ k) : Below w.heap.size w W1 :=
  hb.trans ⟨hg.os, hg.tape, hg.output, hg.size, fun k hk => hg.block k (Nat.lt_of_lt_of_le hk hb.size) (fun e => by have := h k e.symm; omega)⟩
theorem oinfo : (Tryd.prog.info? 53).map (fun i => (i.zero, i.size, i.bytes)) = some (some (.agg #[.int .i64 0, .slice none 0 0]), 2, 32) := by kernel_rfl
theorem opt_heap : Kd.Heap k53 := Kd.heap_iso _ (Kd.heap_pair (Kd.heap_int .i64) (Kd.heap_slice 5 (Kd.heap_int .u8)))
/-- A row of options of the call's own; their data is only read. -/
abbrev ON (w : World) (base : Nat) (ok : Nat → Prop) (v : Value) (l : List OptF) : Prop := Kd.N k53 53 w base ok v l

/-- A box of an option. -/
abbrev Boxed2 (W : World) (b : Nat) (n : Int) (v : Value) : Prop := W.heap[b]? = some (.cells #[.int .i64 n, v] 53 (0, 0))
/-! ### what a put makes -/
def opPut (l : List OptF) (code : Int) (data : List Int) : List OptF :=
  if 0 ≤ ixOf (fun x => x.f0 == code) l then l.take (ixOf (fun x => x.f0 == code) l).toNat ++ [⟨code, data⟩] ++ (l.drop ((ixOf (fun x => x.f0 == code) l).toNat + 1)).filter (fun x => !(x.f0 == code)) else l ++ [⟨code, data⟩]

end Go.Proofs.YtdpoknfidlekbaaDoor
end

section
namespace Go.Proofs.YtdpoknfidlekbaaDoor
open Go.RowKit Go.Proofs.YtdpoknfidlekbaaDoor.Pr Go.Proofs.YtdpoknfidlekbaaDoorW.PrintWords Go.Proofs.YtdpoknfidlekbaaDoorW.PrintLast Go.Proofs.YtdpoknfidlekbaaDoorW.PrintMore
set_option linter.unusedVariables false
set_option linter.unusedSimpArgs false

/-! ### what a put makes -/
theorem opPut_nil (code : Int) (data : List Int) : opPut [] code data = [⟨code, data⟩] := by simp [opPut, ixOf]
theorem opPut_cons (y : OptF) (l : List OptF) (code : Int) (data : List Int) : opPut (y :: l) code data = if y.f0 = code then ⟨code, data⟩ :: l.filter (fun x => !(x.f0 == code)) else y :: opPut l code data := by
  by_cases h : y.f0 = code
  · have e : ixOf (fun x : OptF => x.f0 == code) (y :: l) = 0 := by
      unfold ixOf
      rw [List.findIdx_cons]
      simp [h]
    rw [if_pos h]
    unfold opPut
    rw [e, if_pos (by decide)]
    simp
  · rw [if_neg h]
    have hb : (y.f0 == code) = false := beq_eq_false_iff_ne.2 h
    unfold opPut ixOf
    rw [List.findIdx_cons]
    simp only [hb, cond_false, List.length_cons]
    by_cases hlt : l.findIdx (fun x => x.f0 == code) < l.length
    · rw [if_pos (by omega), if_pos hlt, if_pos (by omega), if_pos (by omega)]
      rw [show ((l.findIdx (fun x => x.f0 == code) + 1 : Nat) : Int).toNat = l.findIdx (fun x => x.f0 == code) + 1 from by omega, Int.toNat_natCast]
      simp
    · rw [if_neg (by omega), if_neg hlt, if_neg (by decide)]
      simp
def notA (a : Int) (l : List OptF) : List OptF := l.filter (fun x => !(x.f0 == a))
def howA (a : Int) (l : List OptF) : Nat := (l.filter (fun x => x.f0 == a)).length
theorem put_others (a : Int) (data : List Int) : ∀ l : List OptF, notA a (opPut l a data) = notA a l
  | [] => by simp [notA, opPut_nil]
  | y :: l => by
    rw [opPut_cons]
    have ih := put_others a data l
    unfold notA at ih ⊢
    by_cases h : y.f0 = a
    · rw [if_pos h]; simp [h]
    · rw [if_neg h]; simp [h, ih]
theorem put_once (a : Int) (data : List Int) : ∀ l : List OptF, howA a (opPut l a data) = 1
  | [] => by simp [howA, opPut_nil]
  | y :: l => by
    rw [opPut_cons]
    have ih := put_once a data l
    unfold howA at ih ⊢
    by_cases h : y.f0 = a
    · rw [if_pos h]
      simp [List.filter_filter]
    · rw [if_neg h]; simp [h, ih]
theorem put_found (a : Int) (data : List Int) : ∀ l : List OptF, opFind (opPut l a data) a = (data, true)
  | [] => by simp [opFind, opPut_nil]
  | y :: l => by
    rw [opPut_cons]
    have ih := put_found a data l
    unfold opFind at ih ⊢
    by_cases h : y.f0 = a
    · rw [if_pos h]; simp
    · rw [if_neg h, List.find?_cons, show (y.f0 == a) = false from beq_eq_false_iff_ne.2 h]; exact ih
theorem find_filter (a b : Int) (h : b ≠ a) : ∀ l : List OptF, (l.filter (fun x => !(x.f0 == a))).find? (fun x => x.f0 == b) = l.find? (fun x => x.f0 == b)
  | [] => rfl
  | y :: l => by
    have ih := find_filter a b h l
    by_cases h1 : y.f0 = a
    · have e1 : (y.f0 == a) = true := beq_iff_eq.2 h1
      have e2 : (y.f0 == b) = false := beq_eq_false_iff_ne.2 (by rw [h1]; exact Ne.symm h)
      simp [e1, e2, ih]
    · have e1 : (y.f0 == a) = false := beq_eq_false_iff_ne.2 h1
      rw [List.filter_cons_of_pos (by simp [h1]), List.find?_cons, List.find?_cons, ih]
theorem opPut_other (a b : Int) (h : b ≠ a) (data : List Int) : ∀ l : List OptF, opFind (opPut l a data) b = opFind l b := by
  have key : ∀ l : List OptF, (opPut l a data).find? (fun x => x.f0 == b) = l.find? (fun x => x.f0 == b) := by
    intro l
    have hb : (a == b) = false := beq_eq_false_iff_ne.2 (Ne.symm h)
    induction l with
    | nil => rw [opPut_nil, List.find?_cons]; simp [hb]
    | cons y l ih =>
      rw [opPut_cons]
      by_cases h1 : y.f0 = a
      · rw [if_pos h1, List.find?_cons, List.find?_cons, find_filter a b h]
        simp [h1, hb]
      · rw [if_neg h1, List.find?_cons, List.find?_cons, ih]
  intro l
  unfold opFind
  rw [key]
theorem put_bytes {l : List OptF} {code : Int} {data : List Int} (hl : ∀ x ∈ l, x.f1.length ≤ 1000) (hd : data.length ≤ 1000) : ∀ x ∈ opPut l code data, x.f1.length ≤ 1000 := by
  intro x hx
  unfold opPut at hx
  split at hx
  · rcases List.mem_append.1 hx with hx | hx
    · rcases List.mem_append.1 hx with hx | hx
      · exact hl x (List.mem_of_mem_take hx)
      · rw [List.mem_singleton.1 hx]; exact hd
    · exact hl x (List.mem_of_mem_drop (List.mem_filter.1 hx).1)
  · rcases List.mem_append.1 hx with hx | hx
    · exact hl x hx
    · rw [List.mem_singleton.1 hx]; exact hd

end Go.Proofs.YtdpoknfidlekbaaDoor
end
