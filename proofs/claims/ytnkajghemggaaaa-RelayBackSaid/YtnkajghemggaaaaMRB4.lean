/-
  relay.Add: a relay's tags put on a client's packet. Conditions: few options, few tags.
  Printed: HO51.
  Printed: HO40.
  Printed: HO26.
  Printed: HOEnc.
-/
import Derived.Test.YtnkajghemggaaaaMRB3
import Derived.Test.YtnkajghemggaaaaMRB1

section
namespace Go.Proofs.Ytnkajghemggaaaa
open Go.RowKit Go.Proofs.Ytnkajghemggaaaa.Pr Go.Proofs.YtnkajghemggaaaaW.PrintWords Go.Proofs.YtnkajghemggaaaaW.PrintLast Go.Proofs.YtnkajghemggaaaaW.PrintMore
attribute [local go_sem] max2_int min2_int max_two min_two max_three min_three max_four min_four
set_option linter.unusedVariables false
set_option linter.unusedSimpArgs false

/-- A packet's cells, and a packet. -/
abbrev pkCells (a0 a1 a2 a3 a4 a5 a6 a7 : Int) (v8 v9 : Value) : Array Value := #[.int .i64 a0, .int .u32 a1, .int .i64 a2, .int .i64 a3, .int .u32 a4, .int .u32 a5, .int .u32 a6, .int .u32 a7, v8, v9]
abbrev pkV (a0 a1 a2 a3 a4 a5 a6 a7 : Int) (v8 v9 : Value) : Value := .agg (pkCells a0 a1 a2 a3 a4 a5 a6 a7 v8 v9)
abbrev pkNil : Array Value := pkCells 0 0 0 0 0 0 0 0 (.slice none 0 0) (.slice none 0 0)
theorem pk_set {W : World} {br : Nat} {t : TypeId} {o0 o1 o2 o3 o4 o5 o6 o7 o8 o9 : Value} (h : W.heap[br]? = some (.cells #[o0, o1, o2, o3, o4, o5, o6, o7, o8, o9] t (0, 0))) (v0 v1 v2 v3 v4 v5 v6 v7 v8 v9 : Value) :
    ((((((((((W.setCell ⟨br, 0, none⟩ v0).setCell ⟨br, 1, none⟩ v1).setCell ⟨br, 2, none⟩ v2).setCell ⟨br, 3, none⟩ v3).setCell ⟨br, 4, none⟩ v4).setCell ⟨br, 5, none⟩ v5).setCell ⟨br, 6, none⟩ v6).setCell ⟨br, 7, none⟩ v7).setCell ⟨br, 8, none⟩ v8).setCell ⟨br, 9, none⟩ v9).heap[br]? = some (.cells #[v0, v1, v2, v3, v4, v5, v6, v7, v8, v9] t (0, 0)) := by
  have h0 : (W.setCell ⟨br, 0, none⟩ v0).heap[br]? = some (.cells #[v0, o1, o2, o3, o4, o5, o6, o7, o8, o9] t (0, 0)) := blk_put h 0 v0 rfl
  have h1 : ((W.setCell ⟨br, 0, none⟩ v0).setCell ⟨br, 1, none⟩ v1).heap[br]? = some (.cells #[v0, v1, o2, o3, o4, o5, o6, o7, o8, o9] t (0, 0)) := blk_put h0 1 v1 rfl
  have h2 : (((W.setCell ⟨br, 0, none⟩ v0).setCell ⟨br, 1, none⟩ v1).setCell ⟨br, 2, none⟩ v2).heap[br]? = some (.cells #[v0, v1, v2, o3, o4, o5, o6, o7, o8, o9] t (0, 0)) := blk_put h1 2 v2 rfl
  have h3 : ((((W.setCell ⟨br, 0, none⟩ v0).setCell ⟨br, 1, none⟩ v1).setCell ⟨br, 2, none⟩ v2).setCell ⟨br, 3, none⟩ v3).heap[br]? = some (.cells #[v0, v1, v2, v3, o4, o5, o6, o7, o8, o9] t (0, 0)) := blk_put h2 3 v3 rfl
  have h4 : (((((W.setCell ⟨br, 0, none⟩ v0).setCell ⟨br, 1, none⟩ v1).setCell ⟨br, 2, none⟩ v2).setCell ⟨br, 3, none⟩ v3).setCell ⟨br, 4, none⟩ v4).heap[br]? = some (.cells #[v0, v1, v2, v3, v4, o5, o6, o7, o8, o9] t (0, 0)) := blk_put h3 4 v4 rfl
  have h5 : ((((((W.setCell ⟨br, 0, none⟩ v0).setCell ⟨br, 1, none⟩ v1).setCell ⟨br, 2, none⟩ v2).setCell ⟨br, 3, none⟩ v3).setCell ⟨br, 4, none⟩ v4).setCell ⟨br, 5, none⟩ v5).heap[br]? = some (.cells #[v0, v1, v2, v3, v4, v5, o6, o7, o8, o9] t (0, 0)) := blk_put h4 5 v5 rfl
  have h6 : (((((((W.setCell ⟨br, 0, none⟩ v0).setCell ⟨br, 1, none⟩ v1).setCell ⟨br, 2, none⟩ v2).setCell ⟨br, 3, none⟩ v3).setCell ⟨br, 4, none⟩ v4).setCell ⟨br, 5, none⟩ v5).setCell ⟨br, 6, none⟩ v6).heap[br]? = some (.cells #[v0, v1, v2, v3, v4, v5, v6, o7, o8, o9] t (0, 0)) := blk_put h5 6 v6 rfl
  have h7 : ((((((((W.setCell ⟨br, 0, none⟩ v0).setCell ⟨br, 1, none⟩ v1).setCell ⟨br, 2, none⟩ v2).setCell ⟨br, 3, none⟩ v3).setCell ⟨br, 4, none⟩ v4).setCell ⟨br, 5, none⟩ v5).setCell ⟨br, 6, none⟩ v6).setCell ⟨br, 7, none⟩ v7).heap[br]? = some (.cells #[v0, v1, v2, v3, v4, v5, v6, v7, o8, o9] t (0, 0)) := blk_put h6 7 v7 rfl
  have h8 : (((((((((W.setCell ⟨br, 0, none⟩ v0).setCell ⟨br, 1, none⟩ v1).setCell ⟨br, 2, none⟩ v2).setCell ⟨br, 3, none⟩ v3).setCell ⟨br, 4, none⟩ v4).setCell ⟨br, 5, none⟩ v5).setCell ⟨br, 6, none⟩ v6).setCell ⟨br, 7, none⟩ v7).setCell ⟨br, 8, none⟩ v8).heap[br]? = some (.cells #[v0, v1, v2, v3, v4, v5, v6, v7, v8, o9] t (0, 0)) := blk_put h7 8 v8 rfl
  have h9 : ((((((((((W.setCell ⟨br, 0, none⟩ v0).setCell ⟨br, 1, none⟩ v1).setCell ⟨br, 2, none⟩ v2).setCell ⟨br, 3, none⟩ v3).setCell ⟨br, 4, none⟩ v4).setCell ⟨br, 5, none⟩ v5).setCell ⟨br, 6, none⟩ v6).setCell ⟨br, 7, none⟩ v7).setCell ⟨br, 8, none⟩ v8).setCell ⟨br, 9, none⟩ v9).heap[br]? = some (.cells #[v0, v1, v2, v3, v4, v5, v6, v7, v8, v9] t (0, 0)) := blk_put h8 9 v9 rfl
  exact h9
theorem pk_below {w W : World} {br : Nat} (hB : Below w.heap.size w W) (hg : w.heap.size ≤ br) (v0 v1 v2 v3 v4 v5 v6 v7 v8 v9 : Value) : Below w.heap.size w ((((((((((W.setCell ⟨br, 0, none⟩ v0).setCell ⟨br, 1, none⟩ v1).setCell ⟨br, 2, none⟩ v2).setCell ⟨br, 3, none⟩ v3).setCell ⟨br, 4, none⟩ v4).setCell ⟨br, 5, none⟩ v5).setCell ⟨br, 6, none⟩ v6).setCell ⟨br, 7, none⟩ v7).setCell ⟨br, 8, none⟩ v8).setCell ⟨br, 9, none⟩ v9) := (below_set (j := 9) (v := v9) (below_set (j := 8) (v := v8) (below_set (j := 7) (v := v7) (below_set (j := 6) (v := v6) (below_set (j := 5) (v := v5) (below_set (j := 4) (v := v4) (below_set (j := 3) (v := v3) (below_set (j := 2) (v := v2) (below_set (j := 1) (v := v1) (below_set (j := 0) (v := v0) hB hg) hg) hg) hg) hg) hg) hg) hg) hg) hg)
theorem pk_far {W : World} {br k : Nat} (hk : k ≠ br) (v0 v1 v2 v3 v4 v5 v6 v7 v8 v9 : Value) : ((((((((((W.setCell ⟨br, 0, none⟩ v0).setCell ⟨br, 1, none⟩ v1).setCell ⟨br, 2, none⟩ v2).setCell ⟨br, 3, none⟩ v3).setCell ⟨br, 4, none⟩ v4).setCell ⟨br, 5, none⟩ v5).setCell ⟨br, 6, none⟩ v6).setCell ⟨br, 7, none⟩ v7).setCell ⟨br, 8, none⟩ v8).setCell ⟨br, 9, none⟩ v9).heap[k]? = W.heap[k]? := (Below.heap_setCell (((((((((W.setCell ⟨br, 0, none⟩ v0).setCell ⟨br, 1, none⟩ v1).setCell ⟨br, 2, none⟩ v2).setCell ⟨br, 3, none⟩ v3).setCell ⟨br, 4, none⟩ v4).setCell ⟨br, 5, none⟩ v5).setCell ⟨br, 6, none⟩ v6).setCell ⟨br, 7, none⟩ v7).setCell ⟨br, 8, none⟩ v8) ⟨br, 9, none⟩ v9 k hk).trans ((Below.heap_setCell ((((((((W.setCell ⟨br, 0, none⟩ v0).setCell ⟨br, 1, none⟩ v1).setCell ⟨br, 2, none⟩ v2).setCell ⟨br, 3, none⟩ v3).setCell ⟨br, 4, none⟩ v4).setCell ⟨br, 5, none⟩ v5).setCell ⟨br, 6, none⟩ v6).setCell ⟨br, 7, none⟩ v7) ⟨br, 8, none⟩ v8 k hk).trans ((Below.heap_setCell (((((((W.setCell ⟨br, 0, none⟩ v0).setCell ⟨br, 1, none⟩ v1).setCell ⟨br, 2, none⟩ v2).setCell ⟨br, 3, none⟩ v3).setCell ⟨br, 4, none⟩ v4).setCell ⟨br, 5, none⟩ v5).setCell ⟨br, 6, none⟩ v6) ⟨br, 7, none⟩ v7 k hk).trans ((Below.heap_setCell ((((((W.setCell ⟨br, 0, none⟩ v0).setCell ⟨br, 1, none⟩ v1).setCell ⟨br, 2, none⟩ v2).setCell ⟨br, 3, none⟩ v3).setCell ⟨br, 4, none⟩ v4).setCell ⟨br, 5, none⟩ v5) ⟨br, 6, none⟩ v6 k hk).trans ((Below.heap_setCell (((((W.setCell ⟨br, 0, none⟩ v0).setCell ⟨br, 1, none⟩ v1).setCell ⟨br, 2, none⟩ v2).setCell ⟨br, 3, none⟩ v3).setCell ⟨br, 4, none⟩ v4) ⟨br, 5, none⟩ v5 k hk).trans ((Below.heap_setCell ((((W.setCell ⟨br, 0, none⟩ v0).setCell ⟨br, 1, none⟩ v1).setCell ⟨br, 2, none⟩ v2).setCell ⟨br, 3, none⟩ v3) ⟨br, 4, none⟩ v4 k hk).trans ((Below.heap_setCell (((W.setCell ⟨br, 0, none⟩ v0).setCell ⟨br, 1, none⟩ v1).setCell ⟨br, 2, none⟩ v2) ⟨br, 3, none⟩ v3 k hk).trans ((Below.heap_setCell ((W.setCell ⟨br, 0, none⟩ v0).setCell ⟨br, 1, none⟩ v1) ⟨br, 2, none⟩ v2 k hk).trans ((Below.heap_setCell (W.setCell ⟨br, 0, none⟩ v0) ⟨br, 1, none⟩ v1 k hk).trans (Below.heap_setCell W ⟨br, 0, none⟩ v0 k hk)))))))))
/-- The door of Add: the packet of the result's cell. -/
theorem add_ret {R : Ending → World → Prop} {tmps : Array Value} {W : World} {br : Nat} {a0 a1 a2 a3 a4 a5 a6 a7 z : Int} {A8 A9 : Option Addr} {n8 c8 n9 c9 : Nat} (h6 : tmps[6]? = some (.pointer (some ⟨br, 0, none⟩))) (h7 : tmps[7]? = some (.int .i64 z))
    (h : W.heap[br]? = some (.cells #[.int .i64 a0, .int .u32 a1, .int .i64 a2, .int .i64 a3, .int .u32 a4, .int .u32 a5, .int .u32 a6, .int .u32 a7, .slice A8 n8 c8, .slice A9 n9 c9] 28 (0, 0)))
    (hR : R (.returned (.tuple #[.agg #[.int .i64 a0, .int .u32 a1, .int .i64 a2, .int .i64 a3, .int .u32 a4, .int .u32 a5, .int .u32 a6, .int .u32 a7, .slice A8 n8 c8, .slice A9 n9 c9], .int .i64 z])) W) :
    bodyPost Try.prog Try.f18 R .ret { tmps := tmps, defers := [] } W := by
  have y0 := (blk_cell h 0).trans rfl
  have y1 := (blk_cell h 1).trans rfl
  have y2 := (blk_cell h 2).trans rfl
  have y3 := (blk_cell h 3).trans rfl
  have y4 := (blk_cell h 4).trans rfl
  have y5 := (blk_cell h 5).trans rfl
  have y6 := (blk_cell h 6).trans rfl
  have y7 := (blk_cell h 7).trans rfl
  have y8 := (blk_cell h 8).trans rfl
  have y9 := (blk_cell h 9).trans rfl
  refine bodyPost_ret (v := .tuple #[.agg #[.int .i64 a0, .int .u32 a1, .int .i64 a2, .int .i64 a3, .int .u32 a4, .int .u32 a5, .int .u32 a6, .int .u32 a7, .slice A8 n8 c8, .slice A9 n9 c9], .int .i64 z]) ?_ rfl hR
  simp [results, Try.results18, go_sem, h6, h7, y0, y1, y2, y3, y4, y5, y6, y7, y8, y9]
set_option maxHeartbeats 4000000 in
set_option maxRecDepth 100000 in
/-- The first way out: not right, no client's, or no relay. -/
theorem add_arg (a0 a1 a2 a3 a4 a5 a6 a7 : Int) (A8 : Option Addr) (n8 c8 : Nat) (A9 : Option Addr) (n9 c9 : Nat) (by_ : Int) (A : Option Addr) (n c : Nat) (rt : Bool) (w : World)
    (hr : ∀ W, Below w.heap.size w W → Calls Try.prog 28 #[pkV a0 a1 a2 a3 a4 a5 a6 a7 (.slice A8 n8 c8) (.slice A9 n9 c9)] W fun e w' => e = .returned (.bool rt) ∧ Below W.heap.size W w') (hno : ¬ (rt = true ∧ a0 = 1 ∧ by_ ≠ 0)) :
    Calls Try.prog 18 #[pkV a0 a1 a2 a3 a4 a5 a6 a7 (.slice A8 n8 c8) (.slice A9 n9 c9), .int .u32 by_, .slice A n c] w fun e w' =>
      e = .returned (.tuple #[.agg pkNil, .int .i64 1]) ∧ Below w.heap.size w w' := by
  have HR := Lib.hid hr
  clear hr
  go_enter Try.func18, Try.ntmps18
  go_upto_region 1 with fail
  obtain ⟨bp, hbp⟩ : ∃ b, w.heap.size = b := ⟨_, rfl⟩
  obtain ⟨br, hbr⟩ : ∃ b, bp + 1 = b := ⟨_, rfl⟩
  obtain ⟨w1, hw1⟩ : ∃ W, (w.alloc (.cells (pkCells a0 a1 a2 a3 a4 a5 a6 a7 (.slice A8 n8 c8) (.slice A9 n9 c9)) 28)).alloc (.cells pkNil 28) = W := ⟨_, rfl⟩
  have HP : Hid (w1.heap[bp]? = some (.cells #[.int .i64 a0, .int .u32 a1, .int .i64 a2, .int .i64 a3, .int .u32 a4, .int .u32 a5, .int .u32 a6, .int .u32 a7, .slice A8 n8 c8, .slice A9 n9 c9] 28 (0, 0))) := by
    show _ = _
    rw [← hw1, ← hbp]
    exact (Below.heap_alloc _ _ _ (by simp)).trans (blk_new _ _)
  have HZ : Hid (w1.heap[br]? = some (.cells pkNil 28 (0, 0))) := by
    show _ = _
    rw [← hw1, ← hbr, ← hbp]
    have := blk_new (w.alloc (.cells (pkCells a0 a1 a2 a3 a4 a5 a6 a7 (.slice A8 n8 c8) (.slice A9 n9 c9)) 28)) (.cells pkNil 28)
    rwa [World.size_alloc] at this
  have HB1 : Hid (Below w.heap.size w w1) := by show Below _ _ _; rw [← hw1]; exact below_alloc (below_alloc (Below.refl _ _) _) _
  have HBP : Hid (w.heap.size ≤ bp ∧ bp < br) := ⟨by omega, by omega⟩
  rw [hbp, hbr]
  change Code.wp _ _ _ _ ((w.alloc (.cells (pkCells a0 a1 a2 a3 a4 a5 a6 a7 (.slice A8 n8 c8) (.slice A9 n9 c9)) 28)).alloc (.cells pkNil 28))
  rw [hw1]
  clear hw1 hbp hbr
  have y0 := (blk_cell HP.out 0).trans rfl
  have y1 := (blk_cell HP.out 1).trans rfl
  have y2 := (blk_cell HP.out 2).trans rfl
  have y3 := (blk_cell HP.out 3).trans rfl
  have y4 := (blk_cell HP.out 4).trans rfl
  have y5 := (blk_cell HP.out 5).trans rfl
  have y6 := (blk_cell HP.out 6).trans rfl
  have y7 := (blk_cell HP.out 7).trans rfl
  have y8 := (blk_cell HP.out 8).trans rfl
  have y9 := (blk_cell HP.out 9).trans rfl
  go_wp2_with fail
  refine (HR.out _ HB1.out).mono ?_
  rintro e w2 ⟨rfl, hb2⟩
  have HP2 : Hid (_ = some _) := (hb2.block bp (blk_lt HP.out)).trans HP.out
  have HZ2 : Hid (_ = some _) := (hb2.block br (blk_lt HZ.out)).trans HZ.out
  have HB2 := Lib.hid (HB1.out.trans (hb2.mono HB1.out.size))
  clear y0 y1 y2 y3 y4 y5 y6 y7 y8 y9 HP HZ HB1 hb2
  have y0 := (blk_cell HP2.out 0).trans rfl
  have u0_ := (blk_cell HZ2.out 0).trans rfl
  have f0_ := blk_frozen HZ2.out 0
  have u1_ := (blk_cell HZ2.out 1).trans rfl
  have f1_ := blk_frozen HZ2.out 1
  have u2_ := (blk_cell HZ2.out 2).trans rfl
  have f2_ := blk_frozen HZ2.out 2
  have u3_ := (blk_cell HZ2.out 3).trans rfl
  have f3_ := blk_frozen HZ2.out 3
  have u4_ := (blk_cell HZ2.out 4).trans rfl
  have f4_ := blk_frozen HZ2.out 4
  have u5_ := (blk_cell HZ2.out 5).trans rfl
  have f5_ := blk_frozen HZ2.out 5
  have u6_ := (blk_cell HZ2.out 6).trans rfl
  have f6_ := blk_frozen HZ2.out 6
  have u7_ := (blk_cell HZ2.out 7).trans rfl
  have f7_ := blk_frozen HZ2.out 7
  have u8_ := (blk_cell HZ2.out 8).trans rfl
  have f8_ := blk_frozen HZ2.out 8
  have u9_ := (blk_cell HZ2.out 9).trans rfl
  have f9_ := blk_frozen HZ2.out 9
  cases rt with
  | false =>
    go_wp2_with fail
    exact add_ret rfl rfl (pk_set HZ2.out _ _ _ _ _ _ _ _ _ _) ⟨rfl, pk_below HB2.out (by have := HBP.out; omega) _ _ _ _ _ _ _ _ _ _⟩
  | true =>
    by_cases h0 : a0 = 1
    · have q0 : (a0 != 1) = false := by rw [bne, beq_iff_eq.2 h0]; rfl
      obtain rfl : by_ = 0 := Classical.byContradiction fun h => hno ⟨rfl, h0, h⟩
      clear hno h0
      go_wp2_with fail
      exact add_ret rfl rfl (pk_set HZ2.out _ _ _ _ _ _ _ _ _ _) ⟨rfl, pk_below HB2.out (by have := HBP.out; omega) _ _ _ _ _ _ _ _ _ _⟩
    · have q0 : (a0 != 1) = true := bne_iff_ne.2 h0
      clear hno h0
      go_wp2_with fail
      exact add_ret rfl rfl (pk_set HZ2.out _ _ _ _ _ _ _ _ _ _) ⟨rfl, pk_below HB2.out (by have := HBP.out; omega) _ _ _ _ _ _ _ _ _ _⟩

set_option maxHeartbeats 4000000 in
set_option maxRecDepth 100000 in
/-- The second: the packet bears such an option. -/
theorem add_there (a0 a1 a2 a3 a4 a5 a6 a7 : Int) (A8 : Option Addr) (n8 c8 : Nat) (A9 : Option Addr) (c9 : Nat) (l9 : List OptF) (by_ : Int) (A : Option Addr) (n c : Nat) (w : World)
    (hr : ∀ W, Below w.heap.size w W → Calls Try.prog 28 #[pkV a0 a1 a2 a3 a4 a5 a6 a7 (.slice A8 n8 c8) (.slice A9 l9.length c9)] W fun e w' => e = .returned (.bool true) ∧ Below W.heap.size W w') (h0 : a0 = 1) (hby : by_ ≠ 0)
    (h9 : Kd.C k48 w A9 l9.length l9) (hc9 : l9.length ≤ c9) (hl9 : ∀ x ∈ l9, x.f1.length < 140737488355328) (hf : (opFind l9 82).2 = true) :
    Calls Try.prog 18 #[pkV a0 a1 a2 a3 a4 a5 a6 a7 (.slice A8 n8 c8) (.slice A9 l9.length c9), .int .u32 by_, .slice A n c] w fun e w' =>
      e = .returned (.tuple #[.agg pkNil, .int .i64 5]) ∧ Below w.heap.size w w' := by
  have q0 : (a0 != 1) = false := by rw [bne, beq_iff_eq.2 h0]; rfl
  have q1 : (by_ == 0) = false := beq_eq_false_iff_ne.2 hby
  obtain ⟨fd, fb, hfd⟩ : ∃ fd fb, opFind l9 82 = (fd, fb) := ⟨_, _, rfl⟩
  obtain rfl : fb = true := by rw [hfd] at hf; exact hf
  have hff : option_Find.f l9 82 = some (fd, true) := by unfold option_Find.f; rw [if_pos hl9, hfd]
  have HFI := Lib.hid (fun W (hb : Below w.heap.size w W) => option_Find.calls A9 c9 l9 82 fd true W (Kd.C_below h9 hb) hc9 hff)
  clear h0 hby h9 hl9 hf hfd hff
  have HR := Lib.hid hr
  clear hr
  go_enter Try.func18, Try.ntmps18
  go_upto_region 1 with fail
  obtain ⟨bp, hbp⟩ : ∃ b, w.heap.size = b := ⟨_, rfl⟩
  obtain ⟨br, hbr⟩ : ∃ b, bp + 1 = b := ⟨_, rfl⟩
  obtain ⟨w1, hw1⟩ : ∃ W, (w.alloc (.cells (pkCells a0 a1 a2 a3 a4 a5 a6 a7 (.slice A8 n8 c8) (.slice A9 l9.length c9)) 28)).alloc (.cells pkNil 28) = W := ⟨_, rfl⟩
  have HP : Hid (w1.heap[bp]? = some (.cells #[.int .i64 a0, .int .u32 a1, .int .i64 a2, .int .i64 a3, .int .u32 a4, .int .u32 a5, .int .u32 a6, .int .u32 a7, .slice A8 n8 c8, .slice A9 l9.length c9] 28 (0, 0))) := by
    show _ = _
    rw [← hw1, ← hbp]
    exact (Below.heap_alloc _ _ _ (by simp)).trans (blk_new _ _)
  have HZ : Hid (w1.heap[br]? = some (.cells pkNil 28 (0, 0))) := by
    show _ = _
    rw [← hw1, ← hbr, ← hbp]
    have := blk_new (w.alloc (.cells (pkCells a0 a1 a2 a3 a4 a5 a6 a7 (.slice A8 n8 c8) (.slice A9 l9.length c9)) 28)) (.cells pkNil 28)
    rwa [World.size_alloc] at this
  have HB1 : Hid (Below w.heap.size w w1) := by show Below _ _ _; rw [← hw1]; exact below_alloc (below_alloc (Below.refl _ _) _) _
  have HBP : Hid (w.heap.size ≤ bp ∧ bp < br) := ⟨by omega, by omega⟩
  rw [hbp, hbr]
  change Code.wp _ _ _ _ ((w.alloc (.cells (pkCells a0 a1 a2 a3 a4 a5 a6 a7 (.slice A8 n8 c8) (.slice A9 l9.length c9)) 28)).alloc (.cells pkNil 28))
  rw [hw1]
  clear hw1 hbp hbr
  have y0 := (blk_cell HP.out 0).trans rfl
  have y1 := (blk_cell HP.out 1).trans rfl
  have y2 := (blk_cell HP.out 2).trans rfl
  have y3 := (blk_cell HP.out 3).trans rfl
  have y4 := (blk_cell HP.out 4).trans rfl
  have y5 := (blk_cell HP.out 5).trans rfl
  have y6 := (blk_cell HP.out 6).trans rfl
  have y7 := (blk_cell HP.out 7).trans rfl
  have y8 := (blk_cell HP.out 8).trans rfl
  have y9 := (blk_cell HP.out 9).trans rfl
  go_wp2_with fail
  refine (HR.out _ HB1.out).mono ?_
  rintro e w2 ⟨rfl, hb2⟩
  have HP2 : Hid (_ = some _) := (hb2.block bp (blk_lt HP.out)).trans HP.out
  have HZ2 : Hid (_ = some _) := (hb2.block br (blk_lt HZ.out)).trans HZ.out
  have HB2 := Lib.hid (HB1.out.trans (hb2.mono HB1.out.size))
  clear y0 y1 y2 y3 y4 y5 y6 y7 y8 y9 HP HZ HB1 hb2
  have y0 := (blk_cell HP2.out 0).trans rfl
  have y1 := (blk_cell HP2.out 1).trans rfl
  have y2 := (blk_cell HP2.out 2).trans rfl
  have y3 := (blk_cell HP2.out 3).trans rfl
  have y4 := (blk_cell HP2.out 4).trans rfl
  have y5 := (blk_cell HP2.out 5).trans rfl
  have y6 := (blk_cell HP2.out 6).trans rfl
  have y7 := (blk_cell HP2.out 7).trans rfl
  have y8 := (blk_cell HP2.out 8).trans rfl
  have y9 := (blk_cell HP2.out 9).trans rfl
  have u0_ := (blk_cell HZ2.out 0).trans rfl
  have f0_ := blk_frozen HZ2.out 0
  have u1_ := (blk_cell HZ2.out 1).trans rfl
  have f1_ := blk_frozen HZ2.out 1
  have u2_ := (blk_cell HZ2.out 2).trans rfl
  have f2_ := blk_frozen HZ2.out 2
  have u3_ := (blk_cell HZ2.out 3).trans rfl
  have f3_ := blk_frozen HZ2.out 3
  have u4_ := (blk_cell HZ2.out 4).trans rfl
  have f4_ := blk_frozen HZ2.out 4
  have u5_ := (blk_cell HZ2.out 5).trans rfl
  have f5_ := blk_frozen HZ2.out 5
  have u6_ := (blk_cell HZ2.out 6).trans rfl
  have f6_ := blk_frozen HZ2.out 6
  have u7_ := (blk_cell HZ2.out 7).trans rfl
  have f7_ := blk_frozen HZ2.out 7
  have u8_ := (blk_cell HZ2.out 8).trans rfl
  have f8_ := blk_frozen HZ2.out 8
  have u9_ := (blk_cell HZ2.out 9).trans rfl
  have f9_ := blk_frozen HZ2.out 9
  go_wp2_with fail
  refine (HFI.out _ HB2.out).mono ?_
  rintro e w4 ⟨v4, rfl, hv4, hb4⟩
  have HZ4 : Hid (_ = some _) := (hb4.block br (blk_lt HZ2.out)).trans HZ2.out
  have HB4 := Lib.hid (HB2.out.trans (hb4.mono HB2.out.size))
  clear hv4 hb4 u0_ f0_ y0 u1_ f1_ y1 u2_ f2_ y2 u3_ f3_ y3 u4_ f4_ y4 u5_ f5_ y5 u6_ f6_ y6 u7_ f7_ y7 u8_ f8_ y8 u9_ f9_ y9
  have u0_ := (blk_cell HZ4.out 0).trans rfl
  have f0_ := blk_frozen HZ4.out 0
  have u1_ := (blk_cell HZ4.out 1).trans rfl
  have f1_ := blk_frozen HZ4.out 1
  have u2_ := (blk_cell HZ4.out 2).trans rfl
  have f2_ := blk_frozen HZ4.out 2
  have u3_ := (blk_cell HZ4.out 3).trans rfl
  have f3_ := blk_frozen HZ4.out 3
  have u4_ := (blk_cell HZ4.out 4).trans rfl
  have f4_ := blk_frozen HZ4.out 4
  have u5_ := (blk_cell HZ4.out 5).trans rfl
  have f5_ := blk_frozen HZ4.out 5
  have u6_ := (blk_cell HZ4.out 6).trans rfl
  have f6_ := blk_frozen HZ4.out 6
  have u7_ := (blk_cell HZ4.out 7).trans rfl
  have f7_ := blk_frozen HZ4.out 7
  have u8_ := (blk_cell HZ4.out 8).trans rfl
  have f8_ := blk_frozen HZ4.out 8
  have u9_ := (blk_cell HZ4.out 9).trans rfl
  have f9_ := blk_frozen HZ4.out 9
  go_wp2_with fail
  exact add_ret rfl rfl (pk_set HZ4.out _ _ _ _ _ _ _ _ _ _) ⟨rfl, pk_below HB4.out (by have := HBP.out; omega) _ _ _ _ _ _ _ _ _ _⟩

set_option maxHeartbeats 4000000 in
set_option maxRecDepth 100000 in
/-- The third: the tags have no bytes. -/
theorem add_bad (a0 a1 a2 a3 a4 a5 a6 a7 : Int) (A8 : Option Addr) (n8 c8 : Nat) (A9 : Option Addr) (c9 : Nat) (l9 : List OptF) (by_ : Int) (A : Option Addr) (n c : Nat) (b : List Int) (z : Int) (w : World)
    (hr : ∀ W, Below w.heap.size w W → Calls Try.prog 28 #[pkV a0 a1 a2 a3 a4 a5 a6 a7 (.slice A8 n8 c8) (.slice A9 l9.length c9)] W fun e w' => e = .returned (.bool true) ∧ Below W.heap.size W w') (h0 : a0 = 1) (hby : by_ ≠ 0)
    (h9 : Kd.C k48 w A9 l9.length l9) (hc9 : l9.length ≤ c9) (hl9 : ∀ x ∈ l9, x.f1.length < 140737488355328) (hf : (opFind l9 82).2 = false)
    (he : ∀ W, Below w.heap.size w W → Calls Try.prog 13 #[.slice A n c] W fun e w' => ∃ v, e = .returned (.tuple #[v, .int .i64 z]) ∧ (Kd.int .u8).R 5 w' W.heap.size (fun _ => True) v b ∧ Below W.heap.size W w') (hz : z ≠ 0) :
    Calls Try.prog 18 #[pkV a0 a1 a2 a3 a4 a5 a6 a7 (.slice A8 n8 c8) (.slice A9 l9.length c9), .int .u32 by_, .slice A n c] w fun e w' =>
      e = .returned (.tuple #[.agg pkNil, .int .i64 z]) ∧ Below w.heap.size w w' := by
  have q0 : (a0 != 1) = false := by rw [bne, beq_iff_eq.2 h0]; rfl
  have q1 : (by_ == 0) = false := beq_eq_false_iff_ne.2 hby
  obtain ⟨fd, fb, hfd⟩ : ∃ fd fb, opFind l9 82 = (fd, fb) := ⟨_, _, rfl⟩
  obtain rfl : fb = false := by rw [hfd] at hf; exact hf
  have hff : option_Find.f l9 82 = some (fd, false) := by unfold option_Find.f; rw [if_pos hl9, hfd]
  have HFI := Lib.hid (fun W (hb : Below w.heap.size w W) => option_Find.calls A9 c9 l9 82 fd false W (Kd.C_below h9 hb) hc9 hff)
  have q2 : (z != 0) = true := bne_iff_ne.2 hz
  have HE := Lib.hid he
  clear he hz h0 hby h9 hl9 hf hfd hff
  have HR := Lib.hid hr
  clear hr
  go_enter Try.func18, Try.ntmps18
  go_upto_region 1 with fail
  obtain ⟨bp, hbp⟩ : ∃ b, w.heap.size = b := ⟨_, rfl⟩
  obtain ⟨br, hbr⟩ : ∃ b, bp + 1 = b := ⟨_, rfl⟩
  obtain ⟨w1, hw1⟩ : ∃ W, (w.alloc (.cells (pkCells a0 a1 a2 a3 a4 a5 a6 a7 (.slice A8 n8 c8) (.slice A9 l9.length c9)) 28)).alloc (.cells pkNil 28) = W := ⟨_, rfl⟩
  have HP : Hid (w1.heap[bp]? = some (.cells #[.int .i64 a0, .int .u32 a1, .int .i64 a2, .int .i64 a3, .int .u32 a4, .int .u32 a5, .int .u32 a6, .int .u32 a7, .slice A8 n8 c8, .slice A9 l9.length c9] 28 (0, 0))) := by
    show _ = _
    rw [← hw1, ← hbp]
    exact (Below.heap_alloc _ _ _ (by simp)).trans (blk_new _ _)
  have HZ : Hid (w1.heap[br]? = some (.cells pkNil 28 (0, 0))) := by
    show _ = _
    rw [← hw1, ← hbr, ← hbp]
    have := blk_new (w.alloc (.cells (pkCells a0 a1 a2 a3 a4 a5 a6 a7 (.slice A8 n8 c8) (.slice A9 l9.length c9)) 28)) (.cells pkNil 28)
    rwa [World.size_alloc] at this
  have HB1 : Hid (Below w.heap.size w w1) := by show Below _ _ _; rw [← hw1]; exact below_alloc (below_alloc (Below.refl _ _) _) _
  have HBP : Hid (w.heap.size ≤ bp ∧ bp < br) := ⟨by omega, by omega⟩
  rw [hbp, hbr]
  change Code.wp _ _ _ _ ((w.alloc (.cells (pkCells a0 a1 a2 a3 a4 a5 a6 a7 (.slice A8 n8 c8) (.slice A9 l9.length c9)) 28)).alloc (.cells pkNil 28))
  rw [hw1]
  clear hw1 hbp hbr
  have y0 := (blk_cell HP.out 0).trans rfl
  have y1 := (blk_cell HP.out 1).trans rfl
  have y2 := (blk_cell HP.out 2).trans rfl
  have y3 := (blk_cell HP.out 3).trans rfl
  have y4 := (blk_cell HP.out 4).trans rfl
  have y5 := (blk_cell HP.out 5).trans rfl
  have y6 := (blk_cell HP.out 6).trans rfl
  have y7 := (blk_cell HP.out 7).trans rfl
  have y8 := (blk_cell HP.out 8).trans rfl
  have y9 := (blk_cell HP.out 9).trans rfl
  go_wp2_with fail
  refine (HR.out _ HB1.out).mono ?_
  rintro e w2 ⟨rfl, hb2⟩
  have HP2 : Hid (_ = some _) := (hb2.block bp (blk_lt HP.out)).trans HP.out
  have HZ2 : Hid (_ = some _) := (hb2.block br (blk_lt HZ.out)).trans HZ.out
  have HB2 := Lib.hid (HB1.out.trans (hb2.mono HB1.out.size))
  clear y0 y1 y2 y3 y4 y5 y6 y7 y8 y9 HP HZ HB1 hb2
  have y0 := (blk_cell HP2.out 0).trans rfl
  have y1 := (blk_cell HP2.out 1).trans rfl
  have y2 := (blk_cell HP2.out 2).trans rfl
  have y3 := (blk_cell HP2.out 3).trans rfl
  have y4 := (blk_cell HP2.out 4).trans rfl
  have y5 := (blk_cell HP2.out 5).trans rfl
  have y6 := (blk_cell HP2.out 6).trans rfl
  have y7 := (blk_cell HP2.out 7).trans rfl
  have y8 := (blk_cell HP2.out 8).trans rfl
  have y9 := (blk_cell HP2.out 9).trans rfl
  have u0_ := (blk_cell HZ2.out 0).trans rfl
  have f0_ := blk_frozen HZ2.out 0
  have u1_ := (blk_cell HZ2.out 1).trans rfl
  have f1_ := blk_frozen HZ2.out 1
  have u2_ := (blk_cell HZ2.out 2).trans rfl
  have f2_ := blk_frozen HZ2.out 2
  have u3_ := (blk_cell HZ2.out 3).trans rfl
  have f3_ := blk_frozen HZ2.out 3
  have u4_ := (blk_cell HZ2.out 4).trans rfl
  have f4_ := blk_frozen HZ2.out 4
  have u5_ := (blk_cell HZ2.out 5).trans rfl
  have f5_ := blk_frozen HZ2.out 5
  have u6_ := (blk_cell HZ2.out 6).trans rfl
  have f6_ := blk_frozen HZ2.out 6
  have u7_ := (blk_cell HZ2.out 7).trans rfl
  have f7_ := blk_frozen HZ2.out 7
  have u8_ := (blk_cell HZ2.out 8).trans rfl
  have f8_ := blk_frozen HZ2.out 8
  have u9_ := (blk_cell HZ2.out 9).trans rfl
  have f9_ := blk_frozen HZ2.out 9
  go_wp2_with fail
  refine (HFI.out _ HB2.out).mono ?_
  rintro e w4 ⟨v4, rfl, hv4, hb4⟩
  have HZ4 : Hid (_ = some _) := (hb4.block br (blk_lt HZ2.out)).trans HZ2.out
  have HB4 := Lib.hid (HB2.out.trans (hb4.mono HB2.out.size))
  clear hv4 hb4 u0_ f0_ y0 u1_ f1_ y1 u2_ f2_ y2 u3_ f3_ y3 u4_ f4_ y4 u5_ f5_ y5 u6_ f6_ y6 u7_ f7_ y7 u8_ f8_ y8 u9_ f9_ y9
  go_wp2_with fail
  refine (HE.out _ HB4.out).mono ?_
  rintro e w5 ⟨v5, rfl, hv5, hb5⟩
  have HZ5 : Hid (_ = some _) := (hb5.block br (blk_lt HZ4.out)).trans HZ4.out
  have HB5 := Lib.hid (HB4.out.trans (hb5.mono HB4.out.size))
  clear hv5 hb5
  have u0_ := (blk_cell HZ5.out 0).trans rfl
  have f0_ := blk_frozen HZ5.out 0
  have u1_ := (blk_cell HZ5.out 1).trans rfl
  have f1_ := blk_frozen HZ5.out 1
  have u2_ := (blk_cell HZ5.out 2).trans rfl
  have f2_ := blk_frozen HZ5.out 2
  have u3_ := (blk_cell HZ5.out 3).trans rfl
  have f3_ := blk_frozen HZ5.out 3
  have u4_ := (blk_cell HZ5.out 4).trans rfl
  have f4_ := blk_frozen HZ5.out 4
  have u5_ := (blk_cell HZ5.out 5).trans rfl
  have f5_ := blk_frozen HZ5.out 5
  have u6_ := (blk_cell HZ5.out 6).trans rfl
  have f6_ := blk_frozen HZ5.out 6
  have u7_ := (blk_cell HZ5.out 7).trans rfl
  have f7_ := blk_frozen HZ5.out 7
  have u8_ := (blk_cell HZ5.out 8).trans rfl
  have f8_ := blk_frozen HZ5.out 8
  have u9_ := (blk_cell HZ5.out 9).trans rfl
  have f9_ := blk_frozen HZ5.out 9
  go_wp2_with fail
  exact add_ret rfl rfl (pk_set HZ5.out _ _ _ _ _ _ _ _ _ _) ⟨rfl, pk_below HB5.out (by have := HBP.out; omega) _ _ _ _ _ _ _ _ _ _⟩
set_option maxHeartbeats 4000000 in
set_option maxRecDepth 100000 in
/-- The rest. -/
theorem add_main (P : Nat → Prop) (a0 a1 a2 a3 a4 a5 a6 a7 : Int) (A8 : Option Addr) (c8 : Nat) (l8 : List Int) (A9 : Option Addr) (c9 : Nat) (l9 : List OptF) (by_ : Int) (A : Option Addr) (n c : Nat) (b : List Int) (rt : Bool) (w : World)
    (hr : ∀ W, Below w.heap.size w W → Calls Try.prog 28 #[pkV a0 a1 a2 a3 a4 a5 a6 a7 (.slice A8 l8.length c8) (.slice A9 l9.length c9)] W fun e w' => e = .returned (.bool true) ∧ Below W.heap.size W w') (h0 : a0 = 1) (hby : by_ ≠ 0)
    (hF9 : Kd.F k48 w P A9 l9.length l9) (hc9 : l9.length ≤ c9) (hl9 : ∀ x ∈ l9, x.f1.length < 140737488355328) (hf : (opFind l9 82).2 = false)
    (he : ∀ W, Below w.heap.size w W → Calls Try.prog 13 #[.slice A n c] W fun e w' => ∃ v, e = .returned (.tuple #[v, .int .i64 0]) ∧ (Kd.int .u8).R 5 w' W.heap.size (fun _ => True) v b ∧ Below W.heap.size W w')
    (h8 : (Kd.int .u8).C w A8 l8.length l8) (hc8 : l8.length ≤ c8) (hn8 : l8.length < 140737488355328) (hn9 : l9.length ≤ 500000) (hb : b.length < 140737488355328)
    (hr2 : ∀ W A8' c8' A9' c9', Below w.heap.size w W → (Kd.int .u8).C W A8' l8.length l8 → l8.length ≤ c8' → Kd.C k48 W A9' (opPut l9 82 b).length (opPut l9 82 b) → (opPut l9 82 b).length ≤ c9' →
      Calls Try.prog 28 #[pkV a0 a1 a2 a3 a4 a5 a6 (if a7 = 0 then by_ else a7) (.slice A8' l8.length c8') (.slice A9' (opPut l9 82 b).length c9')] W fun e w' => e = .returned (.bool rt) ∧ Below W.heap.size W w') :
    Calls Try.prog 18 #[pkV a0 a1 a2 a3 a4 a5 a6 a7 (.slice A8 l8.length c8) (.slice A9 l9.length c9), .int .u32 by_, .slice A n c] w fun e w' =>
      
      if rt = true then ∃ A8' c8' A9' c9', e = .returned (.tuple #[pkV a0 a1 a2 a3 a4 a5 a6 (if a7 = 0 then by_ else a7) (.slice A8' l8.length c8') (.slice A9' (opPut l9 82 b).length c9'), .int .i64 0]) ∧ Kd.R (Kd.int .u8) 5 w' w.heap.size (fun _ => True) (.slice A8' l8.length c8') l8 ∧ ON w' w.heap.size (fun k => (P k ∨ w.heap.size ≤ k) ∧ some k ≠ (Value.slice A8' l8.length c8').ownBlock) (.slice A9' (opPut l9 82 b).length c9') (opPut l9 82 b) ∧ Below w.heap.size w w'
      else e = .returned (.tuple #[.agg pkNil, .int .i64 3]) ∧ Below w.heap.size w w' := by
  have h9 := Kd.F_now hF9
  have q0 : (a0 != 1) = false := by rw [bne, beq_iff_eq.2 h0]; rfl
  have q1 : (by_ == 0) = false := beq_eq_false_iff_ne.2 hby
  obtain ⟨fd, fb, hfd⟩ : ∃ fd fb, opFind l9 82 = (fd, fb) := ⟨_, _, rfl⟩
  obtain rfl : fb = false := by rw [hfd] at hf; exact hf
  have hff : option_Find.f l9 82 = some (fd, false) := by unfold option_Find.f; rw [if_pos hl9, hfd]
  have HFI := Lib.hid (fun W (hb : Below w.heap.size w W) => option_Find.calls A9 c9 l9 82 fd false W (Kd.C_below h9 hb) hc9 hff)
  have HE := Lib.hid he
  have H8 := Lib.hid h8
  have H9 := Lib.hid hF9
  have HL9 := Lib.hid hl9
  have HR2 := Lib.hid hr2
  clear he h0 hby h8 hr2 h9 hF9 hl9 hf hfd hff
  have HR := Lib.hid hr
  clear hr
  go_enter Try.func18, Try.ntmps18
  go_upto_region 1 with fail
  obtain ⟨bp, hbp⟩ : ∃ b, w.heap.size = b := ⟨_, rfl⟩
  obtain ⟨br, hbr⟩ : ∃ b, bp + 1 = b := ⟨_, rfl⟩
  obtain ⟨w1, hw1⟩ : ∃ W, (w.alloc (.cells (pkCells a0 a1 a2 a3 a4 a5 a6 a7 (.slice A8 l8.length c8) (.slice A9 l9.length c9)) 28)).alloc (.cells pkNil 28) = W := ⟨_, rfl⟩
  have HP : Hid (w1.heap[bp]? = some (.cells #[.int .i64 a0, .int .u32 a1, .int .i64 a2, .int .i64 a3, .int .u32 a4, .int .u32 a5, .int .u32 a6, .int .u32 a7, .slice A8 l8.length c8, .slice A9 l9.length c9] 28 (0, 0))) := by
    show _ = _
    rw [← hw1, ← hbp]
    exact (Below.heap_alloc _ _ _ (by simp)).trans (blk_new _ _)
  have HZ : Hid (w1.heap[br]? = some (.cells pkNil 28 (0, 0))) := by
    show _ = _
    rw [← hw1, ← hbr, ← hbp]
    have := blk_new (w.alloc (.cells (pkCells a0 a1 a2 a3 a4 a5 a6 a7 (.slice A8 l8.length c8) (.slice A9 l9.length c9)) 28)) (.cells pkNil 28)
    rwa [World.size_alloc] at this
  have HB1 : Hid (Below w.heap.size w w1) := by show Below _ _ _; rw [← hw1]; exact below_alloc (below_alloc (Below.refl _ _) _) _
  have HBP : Hid (w.heap.size ≤ bp ∧ bp < br) := ⟨by omega, by omega⟩
  rw [hbp, hbr]
  change Code.wp _ _ _ _ ((w.alloc (.cells (pkCells a0 a1 a2 a3 a4 a5 a6 a7 (.slice A8 l8.length c8) (.slice A9 l9.length c9)) 28)).alloc (.cells pkNil 28))
  rw [hw1]
  clear hw1 hbp hbr
  have y0 := (blk_cell HP.out 0).trans rfl
  have y1 := (blk_cell HP.out 1).trans rfl
  have y2 := (blk_cell HP.out 2).trans rfl
  have y3 := (blk_cell HP.out 3).trans rfl
  have y4 := (blk_cell HP.out 4).trans rfl
  have y5 := (blk_cell HP.out 5).trans rfl
  have y6 := (blk_cell HP.out 6).trans rfl
  have y7 := (blk_cell HP.out 7).trans rfl
  have y8 := (blk_cell HP.out 8).trans rfl
  have y9 := (blk_cell HP.out 9).trans rfl
  go_wp2_with fail
  refine (HR.out _ HB1.out).mono ?_
  rintro e w2 ⟨rfl, hb2⟩
  have HP2 : Hid (_ = some _) := (hb2.block bp (blk_lt HP.out)).trans HP.out
  have HZ2 : Hid (_ = some _) := (hb2.block br (blk_lt HZ.out)).trans HZ.out
  have HB2 := Lib.hid (HB1.out.trans (hb2.mono HB1.out.size))
  clear y0 y1 y2 y3 y4 y5 y6 y7 y8 y9 HP HZ HB1 hb2
  have y0 := (blk_cell HP2.out 0).trans rfl
  have y1 := (blk_cell HP2.out 1).trans rfl
  have y2 := (blk_cell HP2.out 2).trans rfl
  have y3 := (blk_cell HP2.out 3).trans rfl
  have y4 := (blk_cell HP2.out 4).trans rfl
  have y5 := (blk_cell HP2.out 5).trans rfl
  have y6 := (blk_cell HP2.out 6).trans rfl
  have y7 := (blk_cell HP2.out 7).trans rfl
  have y8 := (blk_cell HP2.out 8).trans rfl
  have y9 := (blk_cell HP2.out 9).trans rfl
  have u0_ := (blk_cell HZ2.out 0).trans rfl
  have f0_ := blk_frozen HZ2.out 0
  have u1_ := (blk_cell HZ2.out 1).trans rfl
  have f1_ := blk_frozen HZ2.out 1
  have u2_ := (blk_cell HZ2.out 2).trans rfl
  have f2_ := blk_frozen HZ2.out 2
  have u3_ := (blk_cell HZ2.out 3).trans rfl
  have f3_ := blk_frozen HZ2.out 3
  have u4_ := (blk_cell HZ2.out 4).trans rfl
  have f4_ := blk_frozen HZ2.out 4
  have u5_ := (blk_cell HZ2.out 5).trans rfl
  have f5_ := blk_frozen HZ2.out 5
  have u6_ := (blk_cell HZ2.out 6).trans rfl
  have f6_ := blk_frozen HZ2.out 6
  have u7_ := (blk_cell HZ2.out 7).trans rfl
  have f7_ := blk_frozen HZ2.out 7
  have u8_ := (blk_cell HZ2.out 8).trans rfl
  have f8_ := blk_frozen HZ2.out 8
  have u9_ := (blk_cell HZ2.out 9).trans rfl
  have f9_ := blk_frozen HZ2.out 9
  go_wp2_with fail
  refine (HFI.out _ HB2.out).mono ?_
  rintro e w4 ⟨v4, rfl, hv4, hb4⟩
  have HP4 : Hid (_ = some _) := (hb4.block bp (blk_lt HP2.out)).trans HP2.out
  have HZ4 : Hid (_ = some _) := (hb4.block br (blk_lt HZ2.out)).trans HZ2.out
  have HB4 := Lib.hid (HB2.out.trans (hb4.mono HB2.out.size))
  clear hv4 hb4 u0_ f0_ y0 u1_ f1_ y1 u2_ f2_ y2 u3_ f3_ y3 u4_ f4_ y4 u5_ f5_ y5 u6_ f6_ y6 u7_ f7_ y7 u8_ f8_ y8 u9_ f9_ y9
  go_wp2_with fail
  refine (HE.out _ HB4.out).mono ?_
  rintro e w5 ⟨v5, rfl, hv5, hb5⟩
  obtain ⟨A5, c5, rfl⟩ := Kd.R_slice hv5
  have HP5 : Hid (w5.heap[bp]? = some (.cells #[.int .i64 a0, .int .u32 a1, .int .i64 a2, .int .i64 a3, .int .u32 a4, .int .u32 a5, .int .u32 a6, .int .u32 a7, .slice A8 l8.length c8, .slice A9 l9.length c9] 28 (0, 0))) := (hb5.block bp (blk_lt HP4.out)).trans HP4.out
  have HZ5 : Hid (w5.heap[br]? = some (.cells pkNil 28 (0, 0))) := (hb5.block br (blk_lt HZ4.out)).trans HZ4.out
  have HB5 := Lib.hid (HB4.out.trans (hb5.mono HB4.out.size))
  have HV5 := Lib.hid hv5
  clear hv5 hb5
  have e8 := (blk_cell HP5.out 8).trans rfl
  have e9 := (blk_cell HP5.out 9).trans rfl
  go_wp2_with fail
  refine start_ (n := 11) (S := fun w' => w'.cell? ⟨bp, 8, none⟩ = some (.slice A8 l8.length c8) ∧ w'.cell? ⟨bp, 9, none⟩ = some (.slice A9 l9.length c9)) (ds := [8, 10]) #[false, false, false, false, false, false, false, false, false, false, false] (by kernel_rfl) rfl rfl ⟨e8, e9⟩ (fun hHeld => ?_)
  obtain ⟨W2, hW2⟩ : ∃ W2, w5.drew = W2 := ⟨_, rfl⟩
  have hbw : Below w5.heap.size w5 W2 := by rw [← hW2]; exact below_drew (Below.refl _ _)
  rw [hW2] at hHeld ⊢
  clear hW2 e8 e9
  have HPW : Hid (W2.heap[bp]? = some (.cells #[.int .i64 a0, .int .u32 a1, .int .i64 a2, .int .i64 a3, .int .u32 a4, .int .u32 a5, .int .u32 a6, .int .u32 a7, .slice A8 l8.length c8, .slice A9 l9.length c9] 28 (0, 0))) := (hbw.block bp (blk_lt HP5.out)).trans HP5.out
  have HZW : Hid (W2.heap[br]? = some (.cells pkNil 28 (0, 0))) := (hbw.block br (blk_lt HZ5.out)).trans HZ5.out
  have HBW := Lib.hid (HB5.out.trans (hbw.mono HB5.out.size))
  have HVW := Lib.hid (Kd.R_below HV5.out hbw)
  clear hbw HP5 HZ5 HB5 HV5
  refine pure_ (i := 0) (N := some 42) (v := ?_) (a' := ?_) #[true, false, false, false, false, false, false, false, false, false, false] rfl rfl (by kernel_rfl) (fun _ _ _ h => h) (Or.inl ⟨by rfl, ?_⟩) ?_ ?_
  rotate_left
  · intro w'
    go_simp
    with_reducible rfl
  rotate_left
  · simp only [Act.put, List.setIfInBounds_toArray, List.set_cons_zero, List.set_cons_succ, i64_w, i32_w]
    rfl
  refine pure_ (i := 2) (N := some 44) (v := ?_) (a' := ?_) #[true, false, true, false, false, false, false, false, false, false, false] rfl rfl (by kernel_rfl) (fun _ _ _ h => h) (Or.inl ⟨by rfl, ?_⟩) ?_ ?_
  rotate_left
  · intro w'
    go_simp
    with_reducible rfl
  rotate_left
  · simp only [Act.put, List.setIfInBounds_toArray, List.set_cons_zero, List.set_cons_succ, i64_w, i32_w]
    rfl
  refine pure_ (i := 4) (N := some 46) (v := ?_) (a' := ?_) #[true, false, true, false, true, false, false, false, false, false, false] rfl rfl (by kernel_rfl) (fun _ _ _ h => h) (Or.inl ⟨by rfl, ?_⟩) ?_ ?_
  rotate_left
  · intro w'
    go_simp
    with_reducible rfl
  rotate_left
  · simp only [Act.put, List.setIfInBounds_toArray, List.set_cons_zero, List.set_cons_succ, i64_w, i32_w]
    rfl
  refine take_ (i := 1) (N := some 43) (v := .slice A9 l9.length c9) (a' := ?_) #[true, true, true, false, true, false, false, false, false, false, false] rfl rfl (by kernel_rfl) (fun _ _ _ h => h) (Or.inl ⟨by rfl, ?_⟩) hHeld ?_ ?_
  · rintro w' ⟨s0, s1⟩
    go_simp
    try (with_reducible rfl)
  rotate_left
  · simp only [Act.put, List.setIfInBounds_toArray, List.set_cons_zero, List.set_cons_succ, i64_w, i32_w]
    rfl
  refine take_ (i := 5) (N := some 47) (v := .slice A8 l8.length c8) (a' := ?_) #[true, true, true, false, true, true, false, false, false, false, false] rfl rfl (by kernel_rfl) (fun _ _ _ h => h) (Or.inl ⟨by rfl, ?_⟩) hHeld ?_ ?_
  · rintro w' ⟨s0, s1⟩
    go_simp
    try (with_reducible rfl)
  rotate_left
  · simp only [Act.put, List.setIfInBounds_toArray, List.set_cons_zero, List.set_cons_succ, i64_w, i32_w]
    rfl
  refine one_ (i := 3) (N := some 45) #[true, true, true, true, true, true, false, false, false, false, false] rfl rfl (by kernel_rfl) (by decide) (fun K hK => ?_)
  refine goes_ Try.func30 (by kernel_rfl) rfl #[.slice A9 l9.length c9, .int .i64 82, .slice A5 b.length c5] (by rfl) rfl rfl (by (try simp only [List.map_toArray, List.map_cons, List.map_nil]); rfl) ?_
  refine (put_ok (fun k => P k ∨ w.heap.size ≤ k) A9 c9 l9 82 A5 c5 b W2 (Kd.F_mono (Kd.F_below H9.out (HBW.out)) (fun _ h => .inl h)) (fun k hk => .inr (Nat.le_trans HBW.out.size hk)) hc9 hn9 HL9.out (Kd.R_reads' HVW.out).2.2 (Kd.R_reads' HVW.out).2.1 hb).mono ?_
  rintro e w6 ⟨v6, rfl, hn6, hb6⟩
  obtain ⟨A6, c6, rfl⟩ := Kd.N_slice hn6
  have HN6 := Lib.hid hn6
  have HW6 := Lib.hid hb6
  clear hn6 hb6 hHeld
  refine ⟨_, rfl, ?_⟩
  refine hK.out _ _ ⟨pw_cell_below HW6.out ((blk_cell HPW.out 8).trans rfl), pw_cell_below HW6.out ((blk_cell HPW.out 9).trans rfl)⟩ (fun hHeld => ?_)
  clear hK K
  try (refine norm_ (a' := ?_) ?_ ?_; rotate_left; focus (simp only [Act.put, List.setIfInBounds_toArray, List.set_cons_zero, List.set_cons_succ, i64_w, i32_w]; rfl))
  refine pure_ (i := 7) (N := some 49) (v := ?_) (a' := ?_) #[true, true, true, true, true, true, false, true, false, false, false] rfl rfl (by kernel_rfl) (fun _ _ _ h => h) (Or.inl ⟨by rfl, ?_⟩) ?_ ?_
  rotate_left
  · intro w'
    go_simp
    with_reducible rfl
  rotate_left
  · simp only [Act.put, List.setIfInBounds_toArray, List.set_cons_zero, List.set_cons_succ, i64_w, i32_w]
    rfl
  refine one_ (i := 6) (N := some 48) #[true, true, true, true, true, true, true, true, false, false, false] rfl rfl (by kernel_rfl) (by decide) (fun K hK => ?_)
  refine goes_ Try.func31 (by kernel_rfl) rfl #[.slice A8 l8.length c8] (by rfl) rfl rfl (by (try simp only [List.map_toArray, List.map_cons, List.map_nil]); rfl) ?_
  refine (clone_calls A8 c8 l8 w6 (Kd.C_below H8.out (HBW.out.trans (HW6.out.mono HBW.out.size))) hc8 hn8).mono ?_
  rintro e w7 ⟨v7, rfl, hv7, hb7⟩
  obtain ⟨A7, c7, rfl⟩ := Kd.R_slice hv7
  have HV7 := Lib.hid hv7
  have HN7 : Hid (ON w7 W2.heap.size (fun k => (P k ∨ w.heap.size ≤ k) ∧ some k ≠ (Value.slice A7 l8.length c7).ownBlock) (.slice A6 (opPut l9 82 b).length c6) (opPut l9 82 b)) := Kd.N_mono (Kd.N_told (Kd.N_old HN6.out hb7) (Kd.R_base hv7)) (fun k hk => hk.1)
  have HS2 : Hid (w.heap.size ≤ W2.heap.size) := HBW.out.size
  have HW7 := Lib.hid (HW6.out.trans (hb7.mono HW6.out.size))
  have HS6 := Lib.hid HW6.out.size
  clear hv7 hb7 hHeld HN6 HW6
  have HP7 : Hid (w7.heap[bp]? = some (.cells #[.int .i64 a0, .int .u32 a1, .int .i64 a2, .int .i64 a3, .int .u32 a4, .int .u32 a5, .int .u32 a6, .int .u32 a7, .slice A8 l8.length c8, .slice A9 l9.length c9] 28 (0, 0))) := (HW7.out.block bp (blk_lt HPW.out)).trans HPW.out
  refine ⟨_, rfl, ?_⟩
  refine hK.out _ _ ⟨(blk_cell HP7.out 8).trans rfl, (blk_cell HP7.out 9).trans rfl⟩ (fun hHeld => ?_)
  clear hK K
  try (refine norm_ (a' := ?_) ?_ ?_; rotate_left; focus (simp only [Act.put, List.setIfInBounds_toArray, List.set_cons_zero, List.set_cons_succ, i64_w, i32_w]; rfl))
  have k9 := (blk_cell HP7.out 9).trans rfl
  have g9 := blk_frozen HP7.out 9
  have k8 : ∀ u, (w7.setCell ⟨bp, 9, none⟩ u).cell? ⟨bp, 8, none⟩ = some (.slice A8 l8.length c8) := fun u => (blk_cell (blk_set HP7.out 9 u) 8).trans rfl
  have g8 : ∀ u, (w7.setCell ⟨bp, 9, none⟩ u).frozen? ⟨bp, 8, none⟩ = false := fun u => blk_frozen (blk_set HP7.out 9 u) 8
  refine last_ (i := 8) (N := none) #[true, true, true, true, true, true, true, true, true, false, false] rfl rfl (by kernel_rfl) (by decide) (fun K hK => ?_)
  go_simp
  refine hK.out _ _ ?_
  clear hK K
  try (refine norm_ (a' := ?_) ?_ ?_; rotate_left; focus (simp only [Act.put, List.setIfInBounds_toArray, List.set_cons_zero, List.set_cons_succ, i64_w, i32_w]; rfl))
  refine pure_ (i := 9) (N := some 50) (v := ?_) (a' := ?_) #[true, true, true, true, true, true, true, true, true, true, false] rfl rfl (by kernel_rfl) (fun _ _ _ h => h) (Or.inl ⟨by rfl, ?_⟩) ?_ ?_
  rotate_left
  · intro w'
    go_simp
    with_reducible rfl
  rotate_left
  · simp only [Act.put, List.setIfInBounds_toArray, List.set_cons_zero, List.set_cons_succ, i64_w, i32_w]
    rfl
  refine last_ (i := 10) (N := none) #[true, true, true, true, true, true, true, true, true, true, true] rfl rfl (by kernel_rfl) (by decide) (fun K hK => ?_)
  go_simp
  refine hK.out _ _ ?_
  clear hK K k8 k9 g8 g9
  try (refine norm_ (a' := ?_) ?_ ?_; rotate_left; focus (simp only [Act.put, List.setIfInBounds_toArray, List.set_cons_zero, List.set_cons_succ, i64_w, i32_w]; rfl))
  refine done_ (by kernel_rfl) ?_
  have HBPW : Hid (bp < W2.heap.size) := blk_lt HPW.out
  have HBRW : Hid (br < W2.heap.size) := blk_lt HZW.out
  obtain ⟨w10, hw10⟩ : ∃ W, (w7.setCell ⟨bp, 9, none⟩ (.slice A6 (opPut l9 82 b).length c6)).setCell ⟨bp, 8, none⟩ (.slice A7 l8.length c7) = W := ⟨_, rfl⟩
  have hz7 : w7.heap[br]? = some (.cells pkNil 28 (0, 0)) := (HW7.out.block br HBRW.out).trans HZW.out
  have hp10 : w10.heap[bp]? = some (.cells #[.int .i64 a0, .int .u32 a1, .int .i64 a2, .int .i64 a3, .int .u32 a4, .int .u32 a5, .int .u32 a6, .int .u32 a7, .slice A7 l8.length c7, .slice A6 (opPut l9 82 b).length c6] 28 (0, 0)) := by
    rw [← hw10]; exact blk_put (blk_put HP7.out 9 _ rfl) 8 _ rfl
  have hz10 : w10.heap[br]? = some (.cells pkNil 28 (0, 0)) := by
    rw [← hw10]; exact blk_far (blk_far hz7 (p := ⟨bp, 9, none⟩) (by have := HBP.out; show br ≠ bp; omega) _) (p := ⟨bp, 8, none⟩) (by have := HBP.out; show br ≠ bp; omega) _
  have hv10 : (Kd.int .u8).R 5 w10 w6.heap.size (fun _ => True) (.slice A7 l8.length c7) l8 := by
    rw [← hw10]
    refine Kd.R_mono (Kd.R_move (Kd.R_bound HV7.out) (fun k hk => (Below.heap_setCell _ _ _ k ?_).trans (Below.heap_setCell _ _ _ k ?_))) (fun _ hk => hk.1)
    · have h1 := hk.2.1; have h2 := HBPW.out; have h3 := HS6.out; show k ≠ bp; omega
    · have h1 := hk.2.1; have h2 := HBPW.out; have h3 := HS6.out; show k ≠ bp; omega
  have hn10 : ON w10 W2.heap.size (fun k => (((P k ∨ w.heap.size ≤ k) ∧ some k ≠ (Value.slice A7 l8.length c7).ownBlock) ∧ k ≠ bp) ∧ k ≠ br) (.slice A6 (opPut l9 82 b).length c6) (opPut l9 82 b) := by
    rw [← hw10]
    have h1 := ON_off (ON_off HN7.out HP7.out (by intro j x; rcases j with _|_|_|_|_|_|_|_|_|_|j <;> simp) HBPW.out) hz7 (by intro j x; rcases j with _|_|_|_|_|_|_|_|_|_|j <;> simp) HBRW.out
    exact Kd.N_far (Kd.N_far h1 (p := ⟨bp, 9, none⟩) (fun k hk => hk.1.2) _) (p := ⟨bp, 8, none⟩) (fun k hk => hk.1.2) _
  have hb10 : Below w.heap.size w w10 := by rw [← hw10]; exact below_set (below_set (HBW.out.trans (HW7.out.mono HBW.out.size)) HBP.out.1) HBP.out.1
  rw [hw10]
  clear hw10 hz7 HN7 HV7 HP7 HW7 HBW HPW HZW HVW hHeld
  by_cases hg : a7 = 0
  · have q3 : (a7 == 0) = true := beq_iff_eq.2 hg
    have i7 := (blk_cell hp10 7).trans rfl
    have j7 := blk_frozen hp10 7
    obtain ⟨w11, hw11⟩ : ∃ W, w10.setCell ⟨bp, 7, none⟩ (.int .u32 by_) = W := ⟨_, rfl⟩
    have hp11 := blk_put hp10 7 (.int .u32 by_) rfl
    have hz11 := blk_far hz10 (p := ⟨bp, 7, none⟩) (by have := HBP.out; show br ≠ bp; omega) (.int .u32 by_)
    have hv11 := Kd.R_mono (Kd.R_move (Kd.R_bound hv10) (fun k hk => Below.heap_setCell w10 ⟨bp, 7, none⟩ (.int .u32 by_) k (by have h1 := hk.2.1; have h2 := HBPW.out; have h3 := HS6.out; show k ≠ bp; omega))) (fun _ hk => hk.1)
    have hn11 := Kd.N_far hn10 (p := ⟨bp, 7, none⟩) (fun k hk => hk.1.2) (.int .u32 by_)
    have hb11 := below_set (j := 7) (v := .int .u32 by_) hb10 HBP.out.1
    rw [hw11] at hp11 hz11 hv11 hn11 hb11
    have HQ := Lib.hid (And.intro hp11 (And.intro hz11 (And.intro hv11 (And.intro hn11 hb11))))
    have HG := Lib.hid hg
    clear hp10 hz10 hv10 hn10 hb10 hp11 hz11 hv11 hn11 hb11 hg
    go_upto_region 12 with fail
    try rw [hw11]
    clear hw11 i7 j7
    obtain ⟨hp11, hz11, hv11, hn11, hb11⟩ := HQ.out
    clear HQ
    have HP11 : Hid (w11.heap[bp]? = some (.cells #[.int .i64 a0, .int .u32 a1, .int .i64 a2, .int .i64 a3, .int .u32 a4, .int .u32 a5, .int .u32 a6, .int .u32 by_, .slice A7 l8.length c7, .slice A6 (opPut l9 82 b).length c6] 28 (0, 0))) := hp11
    have HR3 := HR2.out w11 A7 c7 A6 c6 hb11 (Kd.R_reads' hv11).2.2 (Kd.R_reads' hv11).2.1 (Kd.N_reads' hn11).2.2 (Kd.N_reads' hn11).2.1
    rw [if_pos HG.out] at HR3
    have HRR := Lib.hid HR3
    have HZ11 := Lib.hid hz11
    have HV11 := Lib.hid hv11
    have HN11 := Lib.hid hn11
    have HB11 := Lib.hid hb11
    clear HR3 hp11 hz11 hv11 hn11 hb11 HR2 HR
    have x0 := (blk_cell HP11.out 0).trans rfl
    have x1 := (blk_cell HP11.out 1).trans rfl
    have x2 := (blk_cell HP11.out 2).trans rfl
    have x3 := (blk_cell HP11.out 3).trans rfl
    have x4 := (blk_cell HP11.out 4).trans rfl
    have x5 := (blk_cell HP11.out 5).trans rfl
    have x6 := (blk_cell HP11.out 6).trans rfl
    have x7 := (blk_cell HP11.out 7).trans rfl
    have x8 := (blk_cell HP11.out 8).trans rfl
    have x9 := (blk_cell HP11.out 9).trans rfl
    go_wp2_with fail
    refine HRR.out.mono ?_
    rintro e w12 ⟨rfl, hb12⟩
    have HP12 : Hid (w12.heap[bp]? = some (.cells #[.int .i64 a0, .int .u32 a1, .int .i64 a2, .int .i64 a3, .int .u32 a4, .int .u32 a5, .int .u32 a6, .int .u32 by_, .slice A7 l8.length c7, .slice A6 (opPut l9 82 b).length c6] 28 (0, 0))) := (hb12.block bp (blk_lt HP11.out)).trans HP11.out
    have HZ12 : Hid (w12.heap[br]? = some (.cells pkNil 28 (0, 0))) := (hb12.block br (blk_lt HZ11.out)).trans HZ11.out
    have HV12 := Lib.hid (Kd.R_below HV11.out hb12)
    have HN12 := Lib.hid (Kd.N_below HN11.out hb12)
    have HB12 := Lib.hid (HB11.out.trans (hb12.mono HB11.out.size))
    clear hb12 x0 x1 x2 x3 x4 x5 x6 x7 x8 x9
    have y0 := (blk_cell HP12.out 0).trans rfl
    have y1 := (blk_cell HP12.out 1).trans rfl
    have y2 := (blk_cell HP12.out 2).trans rfl
    have y3 := (blk_cell HP12.out 3).trans rfl
    have y4 := (blk_cell HP12.out 4).trans rfl
    have y5 := (blk_cell HP12.out 5).trans rfl
    have y6 := (blk_cell HP12.out 6).trans rfl
    have y7 := (blk_cell HP12.out 7).trans rfl
    have y8 := (blk_cell HP12.out 8).trans rfl
    have y9 := (blk_cell HP12.out 9).trans rfl
    have u0_ := (blk_cell HZ12.out 0).trans rfl
    have f0_ := blk_frozen HZ12.out 0
    have u1_ := (blk_cell HZ12.out 1).trans rfl
    have f1_ := blk_frozen HZ12.out 1
    have u2_ := (blk_cell HZ12.out 2).trans rfl
    have f2_ := blk_frozen HZ12.out 2
    have u3_ := (blk_cell HZ12.out 3).trans rfl
    have f3_ := blk_frozen HZ12.out 3
    have u4_ := (blk_cell HZ12.out 4).trans rfl
    have f4_ := blk_frozen HZ12.out 4
    have u5_ := (blk_cell HZ12.out 5).trans rfl
    have f5_ := blk_frozen HZ12.out 5
    have u6_ := (blk_cell HZ12.out 6).trans rfl
    have f6_ := blk_frozen HZ12.out 6
    have u7_ := (blk_cell HZ12.out 7).trans rfl
    have f7_ := blk_frozen HZ12.out 7
    have u8_ := (blk_cell HZ12.out 8).trans rfl
    have f8_ := blk_frozen HZ12.out 8
    have u9_ := (blk_cell HZ12.out 9).trans rfl
    have f9_ := blk_frozen HZ12.out 9
    cases rt with
    | false =>
      go_wp2_with fail
      refine add_ret rfl rfl (pk_set HZ12.out _ _ _ _ _ _ _ _ _ _) ?_
      exact ⟨rfl, pk_below HB12.out (by have := HBP.out; omega) _ _ _ _ _ _ _ _ _ _⟩
    | true =>
      go_wp2_with fail
      have hbr : br < W2.heap.size := HBRW.out
      have hs6 := HS6.out
      refine add_ret rfl rfl (pk_set HZ12.out _ _ _ _ _ _ _ _ _ _) ?_
      have hs2 := HS2.out
      refine ⟨A7, c7, A6, c6, rfl, ?_, ?_, pk_below HB12.out (by have := HBP.out; omega) _ _ _ _ _ _ _ _ _ _⟩
      · exact Kd.R_mono (Kd.R_lower (Kd.R_move (Kd.R_bound HV12.out) (fun k hk => pk_far (by have := hk.2.1; omega) _ _ _ _ _ _ _ _ _ _)) (by omega)) (fun _ _ => trivial)
      · exact Kd.N_lower (Kd.N_mono (Kd.N_step HN12.out (fun k hk _ => pk_far hk.2 _ _ _ _ _ _ _ _ _ _)) (fun k hk => hk.1.1)) hs2
  · have q3 : (a7 == 0) = false := beq_eq_false_iff_ne.2 hg
    have i7 := (blk_cell hp10 7).trans rfl
    obtain ⟨w11, hw11⟩ : ∃ W, w10 = W := ⟨_, rfl⟩
    rw [hw11] at hp10 hz10 hv10 hn10 hb10 i7 ⊢
    clear hw11
    have HQ := Lib.hid (And.intro hp10 (And.intro hz10 (And.intro hv10 (And.intro hn10 hb10))))
    have HG := Lib.hid hg
    clear hp10 hz10 hv10 hn10 hb10 hg
    go_upto_region 12 with fail
    clear i7
    obtain ⟨hp11, hz11, hv11, hn11, hb11⟩ := HQ.out
    clear HQ
    have HP11 : Hid (w11.heap[bp]? = some (.cells #[.int .i64 a0, .int .u32 a1, .int .i64 a2, .int .i64 a3, .int .u32 a4, .int .u32 a5, .int .u32 a6, .int .u32 a7, .slice A7 l8.length c7, .slice A6 (opPut l9 82 b).length c6] 28 (0, 0))) := hp11
    have HR3 := HR2.out w11 A7 c7 A6 c6 hb11 (Kd.R_reads' hv11).2.2 (Kd.R_reads' hv11).2.1 (Kd.N_reads' hn11).2.2 (Kd.N_reads' hn11).2.1
    rw [if_neg HG.out] at HR3
    have HRR := Lib.hid HR3
    have HZ11 := Lib.hid hz11
    have HV11 := Lib.hid hv11
    have HN11 := Lib.hid hn11
    have HB11 := Lib.hid hb11
    clear HR3 hp11 hz11 hv11 hn11 hb11 HR2 HR
    have x0 := (blk_cell HP11.out 0).trans rfl
    have x1 := (blk_cell HP11.out 1).trans rfl
    have x2 := (blk_cell HP11.out 2).trans rfl
    have x3 := (blk_cell HP11.out 3).trans rfl
    have x4 := (blk_cell HP11.out 4).trans rfl
    have x5 := (blk_cell HP11.out 5).trans rfl
    have x6 := (blk_cell HP11.out 6).trans rfl
    have x7 := (blk_cell HP11.out 7).trans rfl
    have x8 := (blk_cell HP11.out 8).trans rfl
    have x9 := (blk_cell HP11.out 9).trans rfl
    go_wp2_with fail
    refine HRR.out.mono ?_
    rintro e w12 ⟨rfl, hb12⟩
    have HP12 : Hid (w12.heap[bp]? = some (.cells #[.int .i64 a0, .int .u32 a1, .int .i64 a2, .int .i64 a3, .int .u32 a4, .int .u32 a5, .int .u32 a6, .int .u32 a7, .slice A7 l8.length c7, .slice A6 (opPut l9 82 b).length c6] 28 (0, 0))) := (hb12.block bp (blk_lt HP11.out)).trans HP11.out
    have HZ12 : Hid (w12.heap[br]? = some (.cells pkNil 28 (0, 0))) := (hb12.block br (blk_lt HZ11.out)).trans HZ11.out
    have HV12 := Lib.hid (Kd.R_below HV11.out hb12)
    have HN12 := Lib.hid (Kd.N_below HN11.out hb12)
    have HB12 := Lib.hid (HB11.out.trans (hb12.mono HB11.out.size))
    clear hb12 x0 x1 x2 x3 x4 x5 x6 x7 x8 x9
    have y0 := (blk_cell HP12.out 0).trans rfl
    have y1 := (blk_cell HP12.out 1).trans rfl
    have y2 := (blk_cell HP12.out 2).trans rfl
    have y3 := (blk_cell HP12.out 3).trans rfl
    have y4 := (blk_cell HP12.out 4).trans rfl
    have y5 := (blk_cell HP12.out 5).trans rfl
    have y6 := (blk_cell HP12.out 6).trans rfl
    have y7 := (blk_cell HP12.out 7).trans rfl
    have y8 := (blk_cell HP12.out 8).trans rfl
    have y9 := (blk_cell HP12.out 9).trans rfl
    have u0_ := (blk_cell HZ12.out 0).trans rfl
    have f0_ := blk_frozen HZ12.out 0
    have u1_ := (blk_cell HZ12.out 1).trans rfl
    have f1_ := blk_frozen HZ12.out 1
    have u2_ := (blk_cell HZ12.out 2).trans rfl
    have f2_ := blk_frozen HZ12.out 2
    have u3_ := (blk_cell HZ12.out 3).trans rfl
    have f3_ := blk_frozen HZ12.out 3
    have u4_ := (blk_cell HZ12.out 4).trans rfl
    have f4_ := blk_frozen HZ12.out 4
    have u5_ := (blk_cell HZ12.out 5).trans rfl
    have f5_ := blk_frozen HZ12.out 5
    have u6_ := (blk_cell HZ12.out 6).trans rfl
    have f6_ := blk_frozen HZ12.out 6
    have u7_ := (blk_cell HZ12.out 7).trans rfl
    have f7_ := blk_frozen HZ12.out 7
    have u8_ := (blk_cell HZ12.out 8).trans rfl
    have f8_ := blk_frozen HZ12.out 8
    have u9_ := (blk_cell HZ12.out 9).trans rfl
    have f9_ := blk_frozen HZ12.out 9
    cases rt with
    | false =>
      go_wp2_with fail
      refine add_ret rfl rfl (pk_set HZ12.out _ _ _ _ _ _ _ _ _ _) ?_
      exact ⟨rfl, pk_below HB12.out (by have := HBP.out; omega) _ _ _ _ _ _ _ _ _ _⟩
    | true =>
      go_wp2_with fail
      have hbr : br < W2.heap.size := HBRW.out
      have hs6 := HS6.out
      refine add_ret rfl rfl (pk_set HZ12.out _ _ _ _ _ _ _ _ _ _) ?_
      have hs2 := HS2.out
      refine ⟨A7, c7, A6, c6, rfl, ?_, ?_, pk_below HB12.out (by have := HBP.out; omega) _ _ _ _ _ _ _ _ _ _⟩
      · exact Kd.R_mono (Kd.R_lower (Kd.R_move (Kd.R_bound HV12.out) (fun k hk => pk_far (by have := hk.2.1; omega) _ _ _ _ _ _ _ _ _ _)) (by omega)) (fun _ _ => trivial)
      · exact Kd.N_lower (Kd.N_mono (Kd.N_step HN12.out (fun k hk _ => pk_far hk.2 _ _ _ _ _ _ _ _ _ _)) (fun k hk => hk.1.1)) hs2
end Go.Proofs.Ytnkajghemggaaaa
end

section
-- written by a program of this session (wip/tools/gen.py) over the kit's print
namespace Go.Proofs.Ytnkajghemggaaaa.Pr
open Go.RowKit Go.Proofs.YtnkajghemggaaaaW.PrintWords Go.Proofs.YtnkajghemggaaaaW.PrintLast Go.Proofs.YtnkajghemggaaaaW.PrintMore
attribute [local go_sem] max2_int min2_int max_two min_two max_three min_three max_four min_four   -- for this text's walks alone
set_option linter.unusedVariables false
set_option linter.unusedSimpArgs false

/-! ### option_Encode_1: function 51 -/
def option_Encode_1.f (a0_0 : Int) (l0_1 : List Int) : Option (Bool) := if a0_0 ≤ 0 then (some true) else (if a0_0 ≥ 255 then (some true) else (some (decide ((l0_1.length : Int) > 255))))
set_option maxHeartbeats 8000000 in
set_option maxRecDepth 100000 in
theorem option_Encode_1.calls (a0_0 : Int) (A0_1 : Option Addr) (c0_1 : Nat) (l0_1 : List Int) (r : Bool) (w : World) (hr0_1 : Kd.C (Kd.int .u8) w A0_1 l0_1.length l0_1) (hc0_1 : l0_1.length ≤ c0_1) (h : option_Encode_1.f a0_0 l0_1 = some r) :
    Calls Try.prog 51 #[.agg #[.int .i64 a0_0, .slice A0_1 l0_1.length c0_1]] w fun e w' => e = .returned (.bool r) ∧ Below w.heap.size w w' := by
  have hu48 := Try.underlying48
  have HR0_1 := Aside0.mk hr0_1
  have HC0_1 := Aside0.mk hc0_1
  clear hr0_1 hc0_1
  have HB := Aside0.mk (Below.refl w.heap.size w)
  have H : (if a0_0 ≤ 0 then (some true) else (if a0_0 ≥ 255 then (some true) else (some (decide ((l0_1.length : Int) > 255))))) = some r := h
  clear h
  by_cases c2 : a0_0 ≤ 0
  · rw [if_pos c2] at H
    have c2b0 : decide (a0_0 ≤ 0) = true := decide_eq_true c2
    clear c2
    obtain rfl := Option.some.inj H
    go_enter Try.func51, Try.ntmps51
    go_wp2_with (first | ((with_reducible refine gate_dst (N := 1) rfl ?_); (try (refine gate_guard (by rfl) ?_; dsimp only)); refine box_event ?hg_1 (N := 1) ?hd_1 (cs := #[.int .i64 a0_0, .slice A0_1 l0_1.length c0_1]) (t := 48) ?hr_1 ?_; (case hd_1 => rfl); (case hg_1 => rfl); (case hr_1 => first | (go_simp; done) | (go_simp; rfl)); intro gb101 hg w3 hbox hb; have n0_ := Aside0.mk (below_step (by repeat (first | (with_reducible first | exact HB.out | apply below_alloc | apply pw_below_drewN | apply below_drew1) | exact HB.out)) hb); have n1_ := Aside0.mk (hbox); have n2_ := Aside0.mk ((by rw [hg]; exact (below_size (by repeat (first | (with_reducible first | exact HB.out | apply below_alloc | apply pw_below_drewN | apply below_drew1) | exact HB.out))) : w.heap.size ≤ gb101)); have n3_ := Aside0.mk ((by rw [hg]; exact (below_size (by repeat (first | (with_reducible first | exact HB.out | apply below_alloc | apply pw_below_drewN | apply below_drew1) | exact HB.out))) : w.heap.size ≤ gb101)); clear HB; have HB := n0_; have BK101 := n1_; have GW101 := n2_; have GE101 := n3_; clear n0_ n1_ n2_ n3_; clear hb hbox hg; have hcz4_0 : w3.cell? ⟨gb101, 0, none⟩ = some (.int .i64 a0_0) := (blk_cell BK101.out 0).trans rfl; have hcz4_1 : w3.cell? ⟨gb101, 1, none⟩ = some (.slice A0_1 l0_1.length c0_1) := (blk_cell BK101.out 1).trans rfl; have hfz4_0 := blk_frozen BK101.out 0; have hfz4_1 := blk_frozen BK101.out 1))
    go_ret
    exact ⟨by first | rfl | (simp [errW_none, errW_some] <;> rfl) | (simp [*, errW_none, errW_some] <;> rfl), by repeat (first | (with_reducible first | exact HB.out | apply below_alloc | apply pw_below_drewN | apply below_drew1 | refine below_set ?_ GE101.out) | exact HB.out)⟩
  · rw [if_neg c2] at H
    have c2b0 : decide (a0_0 ≤ 0) = false := decide_eq_false c2
    clear c2
    by_cases c5 : a0_0 ≥ 255
    · rw [if_pos c5] at H
      have c5b0 : decide (255 ≤ a0_0) = true := decide_eq_true c5
      clear c5
      obtain rfl := Option.some.inj H
      go_enter Try.func51, Try.ntmps51
      go_wp2_with (first | ((with_reducible refine gate_dst (N := 1) rfl ?_); (try (refine gate_guard (by rfl) ?_; dsimp only)); refine box_event ?hg_2 (N := 1) ?hd_2 (cs := #[.int .i64 a0_0, .slice A0_1 l0_1.length c0_1]) (t := 48) ?hr_2 ?_; (case hd_2 => rfl); (case hg_2 => rfl); (case hr_2 => first | (go_simp; done) | (go_simp; rfl)); intro gb101 hg w6 hbox hb; have n0_ := Aside0.mk (below_step (by repeat (first | (with_reducible first | exact HB.out | apply below_alloc | apply pw_below_drewN | apply below_drew1) | exact HB.out)) hb); have n1_ := Aside0.mk (hbox); have n2_ := Aside0.mk ((by rw [hg]; exact (below_size (by repeat (first | (with_reducible first | exact HB.out | apply below_alloc | apply pw_below_drewN | apply below_drew1) | exact HB.out))) : w.heap.size ≤ gb101)); have n3_ := Aside0.mk ((by rw [hg]; exact (below_size (by repeat (first | (with_reducible first | exact HB.out | apply below_alloc | apply pw_below_drewN | apply below_drew1) | exact HB.out))) : w.heap.size ≤ gb101)); clear HB; have HB := n0_; have BK101 := n1_; have GW101 := n2_; have GE101 := n3_; clear n0_ n1_ n2_ n3_; clear hb hbox hg; have hcz7_0 : w6.cell? ⟨gb101, 0, none⟩ = some (.int .i64 a0_0) := (blk_cell BK101.out 0).trans rfl; have hcz7_1 : w6.cell? ⟨gb101, 1, none⟩ = some (.slice A0_1 l0_1.length c0_1) := (blk_cell BK101.out 1).trans rfl; have hfz7_0 := blk_frozen BK101.out 0; have hfz7_1 := blk_frozen BK101.out 1))
      go_ret
      exact ⟨by first | rfl | (simp [errW_none, errW_some] <;> rfl) | (simp [*, errW_none, errW_some] <;> rfl), by repeat (first | (with_reducible first | exact HB.out | apply below_alloc | apply pw_below_drewN | apply below_drew1 | refine below_set ?_ GE101.out) | exact HB.out)⟩
    · rw [if_neg c5] at H
      have c5b0 : decide (255 ≤ a0_0) = false := decide_eq_false c5
      clear c5
      obtain rfl := Option.some.inj H
      go_enter Try.func51, Try.ntmps51
      go_wp2_with (first | ((with_reducible refine gate_dst (N := 1) rfl ?_); (try (refine gate_guard (by rfl) ?_; dsimp only)); refine box_event ?hg_3 (N := 1) ?hd_3 (cs := #[.int .i64 a0_0, .slice A0_1 l0_1.length c0_1]) (t := 48) ?hr_3 ?_; (case hd_3 => rfl); (case hg_3 => rfl); (case hr_3 => first | (go_simp; done) | (go_simp; rfl)); intro gb101 hg w8 hbox hb; have n0_ := Aside0.mk (below_step (by repeat (first | (with_reducible first | exact HB.out | apply below_alloc | apply pw_below_drewN | apply below_drew1) | exact HB.out)) hb); have n1_ := Aside0.mk (hbox); have n2_ := Aside0.mk ((by rw [hg]; exact (below_size (by repeat (first | (with_reducible first | exact HB.out | apply below_alloc | apply pw_below_drewN | apply below_drew1) | exact HB.out))) : w.heap.size ≤ gb101)); have n3_ := Aside0.mk ((by rw [hg]; exact (below_size (by repeat (first | (with_reducible first | exact HB.out | apply below_alloc | apply pw_below_drewN | apply below_drew1) | exact HB.out))) : w.heap.size ≤ gb101)); clear HB; have HB := n0_; have BK101 := n1_; have GW101 := n2_; have GE101 := n3_; clear n0_ n1_ n2_ n3_; clear hb hbox hg; have hcz9_0 : w8.cell? ⟨gb101, 0, none⟩ = some (.int .i64 a0_0) := (blk_cell BK101.out 0).trans rfl; have hcz9_1 : w8.cell? ⟨gb101, 1, none⟩ = some (.slice A0_1 l0_1.length c0_1) := (blk_cell BK101.out 1).trans rfl; have hfz9_0 := blk_frozen BK101.out 0; have hfz9_1 := blk_frozen BK101.out 1))
      go_ret
      exact ⟨by first | rfl | (simp [errW_none, errW_some] <;> rfl) | (simp [*, errW_none, errW_some] <;> rfl), by repeat (first | (with_reducible first | exact HB.out | apply below_alloc | apply pw_below_drewN | apply below_drew1 | refine below_set ?_ GE101.out) | exact HB.out)⟩

end Go.Proofs.Ytnkajghemggaaaa.Pr
end

section
-- written by a program of this session (wip/tools/gen.py) over the kit's print
namespace Go.Proofs.Ytnkajghemggaaaa.Pr
open Go.RowKit Go.Proofs.YtnkajghemggaaaaW.PrintWords Go.Proofs.YtnkajghemggaaaaW.PrintLast Go.Proofs.YtnkajghemggaaaaW.PrintMore
attribute [local go_sem] max2_int min2_int max_two min_two max_three min_three max_four min_four   -- for this text's walks alone
set_option linter.unusedVariables false
set_option linter.unusedSimpArgs false

/-! ### slices_IndexFuncO: function 40 -/
def slices_IndexFuncO.l0 : Nat → List (S48) → Int → Int → Option (Int)
  | 0, _, _, _ => none
  | k + 1, x0, x7, x8 => if x8 < x7 then (if 0 ≤ x8 then (if x8 < (x0.length : Int) then ((option_Encode_1.f ((rd_T48 x0 x8).f0) ((rd_T48 x0 x8).f1)).bind fun t103 => (if t103 = true then (some x8) else (slices_IndexFuncO.l0 k x0 x7 (wrap64 (x8 + 1))))) else (none)) else (none)) else (some (-1))
def slices_IndexFuncO.f (k : Nat) (l0 : List (S48)) (a1 : Int) : Option (Int) := slices_IndexFuncO.l0 k l0 (l0.length : Int) 0
theorem slices_IndexFuncO.mono_l : ∀ k, (∀ y0 y1 y2, LeO (slices_IndexFuncO.l0 k y0 y1 y2) (slices_IndexFuncO.l0 (k + 1) y0 y1 y2))
  | 0 => fun _ _ _ r h => by simp [slices_IndexFuncO.l0] at h
  | k + 1 => by
    have ih0 := slices_IndexFuncO.mono_l k
    · intro y0 y1 y2
      unfold slices_IndexFuncO.l0
      repeat' first
      | (with_reducible exact ih0 _ _ _)
      | (with_reducible exact LeO.refl _)
      | (with_reducible exact LeO.none _)
      | (with_reducible refine LeO.ite ?_ ?_)
      | (with_reducible refine LeO.bind ?_ (fun _ => ?_))
      | exact ih0 _ _ _
      | exact LeO.none _
      | refine LeO.ite ?_ ?_
      | refine LeO.bind ?_ (fun _ => ?_)
theorem slices_IndexFuncO.mono : ∀ a0 a1 k, LeO (slices_IndexFuncO.f k a0 a1) (slices_IndexFuncO.f (k + 1) a0 a1) := by
  intro a0 a1 k
  have ih0 := slices_IndexFuncO.mono_l k
  unfold slices_IndexFuncO.f
  repeat' first
      | (with_reducible exact ih0 _ _ _)
      | (with_reducible exact LeO.refl _)
      | (with_reducible exact LeO.none _)
      | (with_reducible refine LeO.ite ?_ ?_)
      | (with_reducible refine LeO.bind ?_ (fun _ => ?_))
      | exact ih0 _ _ _
      | exact LeO.none _
      | refine LeO.ite ?_ ?_
      | refine LeO.bind ?_ (fun _ => ?_)
set_option maxHeartbeats 8000000 in
set_option maxRecDepth 100000 in
theorem slices_IndexFuncO.calls (k : Nat) (A0 : Option Addr) (c0 : Nat) (l0 : List (S48)) (a1 : Int) (r : Int) (w : World) (hr0 : Kd.C k48 w A0 l0.length l0) (hc0 : l0.length ≤ c0) (h : slices_IndexFuncO.f k l0 a1 = some r) :
    Calls Try.prog 40 #[.slice A0 l0.length c0, .func (.func 51) #[] #[]] w fun e w' => e = .returned (.int .i64 r) ∧ Below w.heap.size w w' := by
  have hu48 := Try.underlying48
  have HR0 := Aside0.mk hr0
  have HC0 := Aside0.mk hc0
  clear hr0 hc0
  have HB := Aside0.mk (Below.refl w.heap.size w)
  have H : (slices_IndexFuncO.l0 k l0 (l0.length : Int) 0) = some r := h
  clear h
  have H' := Aside0.mk H
  clear H
  go_enter Try.func40, Try.ntmps40
  go_wp2
  go_loopg [8] k (fun kq v8 w' => ∃ (x8_1 : Int), v8 = .int .i64 x8_1 ∧ Aside0 (slices_IndexFuncO.l0 kq l0 (l0.length : Int) x8_1 = some r) ∧ Aside0 (kq ≤ k) ∧ Aside0 (Below w.heap.size w w'))
  case atStart => exact ⟨(0), (by first | rfl | (simp; done) | (simp [*]; done)), H', ⟨Nat.le_refl _⟩, ⟨by repeat (first | (with_reducible first | exact HB.out | apply below_alloc | apply pw_below_drewN | apply below_drew1) | exact HB.out)⟩⟩
  case round =>
    clear H'
    try clear p2
    obtain ⟨x8_1, rfl, HA, HK1, HB⟩ := hrel
    cases gk with
    | zero => exact absurd HA.out (by simp [slices_IndexFuncO.l0])
    | succ k1 =>
      have H := HA.out
      clear HA
      simp only [slices_IndexFuncO.l0] at H
      by_cases c3 : x8_1 < (l0.length : Int)
      · rw [if_pos c3] at H
        have c3b0 : decide (x8_1 < (l0.length : Int)) = true := decide_eq_true c3
        clear c3
        by_cases c4 : 0 ≤ x8_1
        · rw [if_pos c4] at H
          have c4b0 : decide (0 ≤ x8_1) = true := decide_eq_true c4
          clear c4
          by_cases c5 : x8_1 < (l0.length : Int)
          · rw [if_pos c5] at H
            have c5b0 : decide (x8_1 < (l0.length : Int)) = true := decide_eq_true c5
            clear c5
            replace H := Option.bind_eq_some_iff.mp H
            obtain ⟨t103, A60, H⟩ := H
            replace H : (if t103 = true then (some x8_1) else (slices_IndexFuncO.l0 k1 l0 (l0.length : Int) (wrap64 (x8_1 + 1)))) = some r := H
            have A6 := Aside0.mk A60
            clear A60
            by_cases c7 : t103 = true
            · subst c7
              have H1 : (some x8_1) = some r := by rw [if_pos rfl] at H; exact H
              clear H
              have H := H1
              clear H1
              obtain rfl := Option.some.inj H
              have p102 : 0 ≤ (x8_1 : Int) := of_decide_eq_true (by first | (with_reducible assumption) | assumption)
              have q102 : x8_1 < (l0.length : Int) := of_decide_eq_true (by first | (with_reducible assumption) | assumption)
              obtain ⟨ad102, A102_1, c102_1, e102, hx102_0, hx102_1, hl102_1, hi102_1⟩ := at_T48 HR0.out x8_1 p102 q102
              cases e102
              replace hx102_0 := (HB.out.cell (World.block_lt_of_cell? w _ hx102_0)).trans hx102_0
              replace hx102_1 := (HB.out.cell (World.block_lt_of_cell? w _ hx102_1)).trans hx102_1
              have HR102_1 := Aside0.mk hi102_1
              have HC102_1 := Aside0.mk hl102_1
              clear hi102_1 hl102_1
              replace p102 := eq_true p102
              replace q102 := eq_true q102
              go_wp2_with (first | (go_at_call 51; (with_reducible refine (option_Encode_1.calls ((rd_T48 l0 x8_1).f0) _ _ ((rd_T48 l0 x8_1).f1) true _ ?side1_1 ?side2_1 A6.out).mono ?_); (case side1_1 => repeat (first | exact (Kd.C_below HR102_1.out HB.out) | exact (Kd.C_below (Aside0.out (by assumption)) HB.out) | (with_reducible refine Kd.C_alloc ?_ _) | (with_reducible refine Kd.C_drewN ?_ _) | (with_reducible refine Kd.C_drew ?_))); (case side2_1 => exact HC102_1.out); rintro e w8 ⟨rfl, hb⟩; have n0_ := Aside0.mk (below_step (by repeat (first | (with_reducible first | exact HB.out | apply below_alloc | apply pw_below_drewN | apply below_drew1) | exact HB.out)) hb); clear HB; have HB := n0_; clear n0_; (try clear hb); (try clear hb2); (try clear hk); (try clear hi)))
              go_ret
              exact ⟨by first | rfl | (simp [errW_none, errW_some] <;> rfl) | (simp [*, errW_none, errW_some] <;> rfl), by repeat (first | (with_reducible first | exact HB.out | apply below_alloc | apply pw_below_drewN | apply below_drew1) | exact HB.out)⟩
            · replace c7 := Bool.eq_false_iff.mpr c7
              subst c7
              have H1 : (slices_IndexFuncO.l0 k1 l0 (l0.length : Int) (wrap64 (x8_1 + 1))) = some r := by rw [if_neg (show ¬ (false = true) by decide)] at H; exact H
              clear H
              have H := H1
              clear H1
              have H' := Aside0.mk H
              clear H
              have p102 : 0 ≤ (x8_1 : Int) := of_decide_eq_true (by first | (with_reducible assumption) | assumption)
              have q102 : x8_1 < (l0.length : Int) := of_decide_eq_true (by first | (with_reducible assumption) | assumption)
              obtain ⟨ad102, A102_1, c102_1, e102, hx102_0, hx102_1, hl102_1, hi102_1⟩ := at_T48 HR0.out x8_1 p102 q102
              cases e102
              replace hx102_0 := (HB.out.cell (World.block_lt_of_cell? w _ hx102_0)).trans hx102_0
              replace hx102_1 := (HB.out.cell (World.block_lt_of_cell? w _ hx102_1)).trans hx102_1
              have HR102_1 := Aside0.mk hi102_1
              have HC102_1 := Aside0.mk hl102_1
              clear hi102_1 hl102_1
              replace p102 := eq_true p102
              replace q102 := eq_true q102
              go_wp2_with (first | (go_at_call 51; (with_reducible refine (option_Encode_1.calls ((rd_T48 l0 x8_1).f0) _ _ ((rd_T48 l0 x8_1).f1) false _ ?side1_2 ?side2_2 A6.out).mono ?_); (case side1_2 => repeat (first | exact (Kd.C_below HR102_1.out HB.out) | exact (Kd.C_below (Aside0.out (by assumption)) HB.out) | (with_reducible refine Kd.C_alloc ?_ _) | (with_reducible refine Kd.C_drewN ?_ _) | (with_reducible refine Kd.C_drew ?_))); (case side2_2 => exact HC102_1.out); rintro e w9 ⟨rfl, hb⟩; have n0_ := Aside0.mk (below_step (by repeat (first | (with_reducible first | exact HB.out | apply below_alloc | apply pw_below_drewN | apply below_drew1) | exact HB.out)) hb); clear HB; have HB := n0_; clear n0_; (try clear hb); (try clear hb2); (try clear hk); (try clear hi)))
              go_roundg k1
              case measure => have := HK1.out; omega
              case rel => exact ⟨(wrap64 (x8_1 + 1)), (by first | rfl | (simp; done) | (simp [*]; done)), H', ⟨by have := HK1.out; omega⟩, ⟨by repeat (first | (with_reducible first | exact HB.out | apply below_alloc | apply pw_below_drewN | apply below_drew1) | exact HB.out)⟩⟩
          · rw [if_neg c5] at H
            exact absurd H (by simp)
        · rw [if_neg c4] at H
          exact absurd H (by simp)
      · rw [if_neg c3] at H
        have c3b0 : decide (x8_1 < (l0.length : Int)) = false := decide_eq_false c3
        clear c3
        obtain rfl := Option.some.inj H
        go_wp2
        go_ret
        exact ⟨by first | rfl | (simp [errW_none, errW_some] <;> rfl) | (simp [*, errW_none, errW_some] <;> rfl), by repeat (first | (with_reducible first | exact HB.out | apply below_alloc | apply pw_below_drewN | apply below_drew1) | exact HB.out)⟩

end Go.Proofs.Ytnkajghemggaaaa.Pr
end

section
-- written by a program of this session (wip/tools/gen.py) over the kit's print
namespace Go.Proofs.Ytnkajghemggaaaa.Pr
open Go.RowKit Go.Proofs.YtnkajghemggaaaaW.PrintWords Go.Proofs.YtnkajghemggaaaaW.PrintLast Go.Proofs.YtnkajghemggaaaaW.PrintMore
attribute [local go_sem] max2_int min2_int max_two min_two max_three min_three max_four min_four   -- for this text's walks alone
set_option linter.unusedVariables false
set_option linter.unusedSimpArgs false

/-! ### slices_ContainsFuncO: function 26 -/
def slices_ContainsFuncO.f (k : Nat) (l0 : List (S48)) (a1 : Int) : Option (Bool) := (slices_IndexFuncO.f k l0 a1).bind fun t104 => (some (decide (t104 ≥ 0)))
theorem slices_ContainsFuncO.mono : ∀ a0 a1 k, LeO (slices_ContainsFuncO.f k a0 a1) (slices_ContainsFuncO.f (k + 1) a0 a1) := by
  intro a0 a1 k
  unfold slices_ContainsFuncO.f
  repeat' first
      | (with_reducible exact slices_IndexFuncO.mono _ _ _)
      | (with_reducible exact LeO.refl _)
      | (with_reducible exact LeO.none _)
      | (with_reducible refine LeO.ite ?_ ?_)
      | (with_reducible refine LeO.bind ?_ (fun _ => ?_))
      | exact slices_IndexFuncO.mono _ _ _
      | exact LeO.none _
      | refine LeO.ite ?_ ?_
      | refine LeO.bind ?_ (fun _ => ?_)
set_option maxHeartbeats 8000000 in
set_option maxRecDepth 100000 in
theorem slices_ContainsFuncO.calls (k : Nat) (A0 : Option Addr) (c0 : Nat) (l0 : List (S48)) (a1 : Int) (r : Bool) (w : World) (hr0 : Kd.C k48 w A0 l0.length l0) (hc0 : l0.length ≤ c0) (h : slices_ContainsFuncO.f k l0 a1 = some r) :
    Calls Try.prog 26 #[.slice A0 l0.length c0, .func (.func 51) #[] #[]] w fun e w' => e = .returned (.bool r) ∧ Below w.heap.size w w' := by
  have HR0 := Aside0.mk hr0
  have HC0 := Aside0.mk hc0
  clear hr0 hc0
  have HB := Aside0.mk (Below.refl w.heap.size w)
  have H : ((slices_IndexFuncO.f k l0 a1).bind fun t104 => (some (decide (t104 ≥ 0)))) = some r := h
  clear h
  replace H := Option.bind_eq_some_iff.mp H
  obtain ⟨t104, A30, H⟩ := H
  replace H : (some (decide (t104 ≥ 0))) = some r := H
  have A3 := Aside0.mk A30
  clear A30
  obtain rfl := Option.some.inj H
  go_enter Try.func26, Try.ntmps26
  go_wp2_with (first | ((with_reducible refine gate_callee (f := 40) rfl ?_); refine goesL_ (some 7) rfl rfl Try.func40 (by kernel_rfl) rfl #[.slice A0 l0.length c0, .func (.func 51) #[] #[]] rfl (by (try simp only [List.map_toArray, List.map_cons, List.map_nil]); first | done | rfl | (simp only [List.length_drop, List.length_take]; rfl)) ?_; (with_reducible refine (slices_IndexFuncO.calls k _ _ l0 a1 t104 _ ?side1_1 ?side2_1 A3.out).mono ?_); (case side1_1 => repeat (first | exact HR0.out | (with_reducible refine Kd.C_alloc ?_ _) | (with_reducible refine Kd.C_drewN ?_ _) | (with_reducible refine Kd.C_drew ?_))); (case side2_1 => exact HC0.out); rintro e w4 ⟨rfl, hb⟩; refine ⟨_, rfl, ?_⟩; have n0_ := Aside0.mk (below_step (by repeat (first | (with_reducible first | exact HB.out | apply below_alloc | apply pw_below_drewN | apply below_drew1) | exact HB.out)) hb); clear HB; have HB := n0_; clear n0_; (try clear hb); (try clear hb2); (try clear hk); (try clear hi)))
  go_ret
  exact ⟨by first | rfl | (simp [errW_none, errW_some] <;> rfl) | (simp [*, errW_none, errW_some] <;> rfl), by repeat (first | (with_reducible first | exact HB.out | apply below_alloc | apply pw_below_drewN | apply below_drew1) | exact HB.out)⟩

end Go.Proofs.Ytnkajghemggaaaa.Pr
end

section
-- written by a program of this session (wip/tools/gen.py) over the kit's print
namespace Go.Proofs.Ytnkajghemggaaaa.Pr
open Go.RowKit Go.Proofs.YtnkajghemggaaaaW.PrintWords Go.Proofs.YtnkajghemggaaaaW.PrintLast Go.Proofs.YtnkajghemggaaaaW.PrintMore
attribute [local go_sem] max2_int min2_int max_two min_two max_three min_three max_four min_four   -- for this text's walks alone
set_option linter.unusedVariables false
set_option linter.unusedSimpArgs false

/-! ### option_Encode: function 43 -/
def option_Encode.l0 : Nat → List Int → List (S48) → Int → Int → Option (List Int × Int)
  | 0, _, _, _, _ => none
  | k + 1, x5, x11, x12, x13 => if x13 < x12 then (if 0 ≤ x13 then (if x13 < (x11.length : Int) then ((some (([((rd_T48 x11 x13).f0) % 256, ((((rd_T48 x11 x13).f1).length : Int)) % 256] : List Int) : List Int)).bind fun y108 => (if x5.length + y108.length < 140737488355328 then ((some (x5 ++ y108 : List Int)).bind fun y111 => (if y111.length + ((rd_T48 x11 x13).f1).length < 140737488355328 then (option_Encode.l0 k (y111 ++ ((rd_T48 x11 x13).f1)) x11 x12 (wrap64 (x13 + 1))) else (none))) else (none))) else (none)) else (none)) else (if x5.length < 140737488355328 then ((some (x5 ++ [255] : List Int)).bind fun y117 => (if (y117.length : Int) > 1024 then (some (([] : List Int), 3)) else (some (y117, 0)))) else (none))
def option_Encode.f (k : Nat) (l0 : List (S48)) : Option (List Int × Int) := (slices_ContainsFuncO.f k l0 420051).bind fun t105 => (if t105 = true then (some (([] : List Int), 1)) else (option_Encode.l0 k ([] : List Int) l0 (l0.length : Int) 0))
theorem option_Encode.mono_l : ∀ k, (∀ y0 y1 y2 y3, LeO (option_Encode.l0 k y0 y1 y2 y3) (option_Encode.l0 (k + 1) y0 y1 y2 y3))
  | 0 => fun _ _ _ _ r h => by simp [option_Encode.l0] at h
  | k + 1 => by
    have ih0 := option_Encode.mono_l k
    · intro y0 y1 y2 y3
      unfold option_Encode.l0
      repeat' first
      | (with_reducible exact ih0 _ _ _ _)
      | (with_reducible exact slices_ContainsFuncO.mono _ _ _)
      | (with_reducible exact LeO.refl _)
      | (with_reducible exact LeO.none _)
      | (with_reducible refine LeO.ite ?_ ?_)
      | (with_reducible refine LeO.bind ?_ (fun _ => ?_))
      | exact ih0 _ _ _ _
      | exact slices_ContainsFuncO.mono _ _ _
      | exact LeO.none _
      | refine LeO.ite ?_ ?_
      | refine LeO.bind ?_ (fun _ => ?_)
theorem option_Encode.mono : ∀ a0 k, LeO (option_Encode.f k a0) (option_Encode.f (k + 1) a0) := by
  intro a0 k
  have ih0 := option_Encode.mono_l k
  unfold option_Encode.f
  repeat' first
      | (with_reducible exact ih0 _ _ _ _)
      | (with_reducible exact slices_ContainsFuncO.mono _ _ _)
      | (with_reducible exact LeO.refl _)
      | (with_reducible exact LeO.none _)
      | (with_reducible refine LeO.ite ?_ ?_)
      | (with_reducible refine LeO.bind ?_ (fun _ => ?_))
      | exact ih0 _ _ _ _
      | exact slices_ContainsFuncO.mono _ _ _
      | exact LeO.none _
      | refine LeO.ite ?_ ?_
      | refine LeO.bind ?_ (fun _ => ?_)
def option_Encode.T8 : Bool × List (List Nat × List Nat) := (true, [([], []), ([], []), ([1], [1]), ([2], [2]), ([], []), ([4], [4]), ([5], [5]), ([6], [6]), ([3, 7], [3, 7]), ([0, 8], [0, 8]), ([], []), ([10], [10]), ([9, 11, 9], [9, 11]), ([12, 12, 0, 1, 2, 3, 4, 5, 6, 7, 8, 9, 10, 11, 12], [0, 12])])
def option_Encode.B8 : List Nat := [0, 0, 2, 6, 0, 16, 48, 112, 254, 511, 0, 1024, 4095, 8191]
theorem option_Encode.tab8 : rtab .any (opsOf Try.f43 8) = option_Encode.T8 := by kernel_rfl
theorem option_Encode.bits8 : waitsOk option_Encode.T8.2 option_Encode.B8 = true := by kernel_rfl
set_option maxHeartbeats 8000000 in
set_option maxRecDepth 100000 in
theorem option_Encode.calls (k : Nat) (A0 : Option Addr) (c0 : Nat) (l0 : List (S48)) (r1 : List Int) (r2 : Int) (w : World) (hr0 : Kd.C k48 w A0 l0.length l0) (hc0 : l0.length ≤ c0) (h : option_Encode.f k l0 = some (r1, r2)) :
    Calls Try.prog 43 #[.slice A0 l0.length c0] w fun e w' => ∃ v0_ : Value, e = .returned (.tuple #[v0_, .int .i64 r2]) ∧ Kd.R (Kd.int .u8) 5 w' w.heap.size (fun _ => True) v0_ r1 ∧ Below w.heap.size w w' := by
  have hu48 := Try.underlying48
  have HR0 := Aside0.mk hr0
  have HC0 := Aside0.mk hc0
  clear hr0 hc0
  have HB := Aside0.mk (Below.refl w.heap.size w)
  have H : ((slices_ContainsFuncO.f k l0 420051).bind fun t105 => (if t105 = true then (some (([] : List Int), 1)) else (option_Encode.l0 k ([] : List Int) l0 (l0.length : Int) 0))) = some (r1, r2) := h
  clear h
  replace H := Option.bind_eq_some_iff.mp H
  obtain ⟨t105, A20, H⟩ := H
  replace H : (if t105 = true then (some (([] : List Int), 1)) else (option_Encode.l0 k ([] : List Int) l0 (l0.length : Int) 0)) = some (r1, r2) := H
  have A2 := Aside0.mk A20
  clear A20
  by_cases c3 : t105 = true
  · subst c3
    have H1 : (some (([] : List Int), 1)) = some (r1, r2) := by rw [if_pos rfl] at H; exact H
    clear H
    have H := H1
    clear H1
    simp only [Option.some.injEq, Prod.mk.injEq] at H
    obtain ⟨rfl, rfl⟩ := H
    go_enter Try.func43, Try.ntmps43
    go_wp2_with (first | ((with_reducible refine gate_callee (f := 26) rfl ?_); refine goesL_ (some 10) rfl rfl Try.func26 (by kernel_rfl) rfl #[.slice A0 l0.length c0, .func (.func 51) #[] #[]] rfl (by (try simp only [List.map_toArray, List.map_cons, List.map_nil]); first | done | rfl | (simp only [List.length_drop, List.length_take]; rfl)) ?_; (with_reducible refine (slices_ContainsFuncO.calls k _ _ l0 420051 true _ ?side1_1 ?side2_1 A2.out).mono ?_); (case side1_1 => repeat (first | exact HR0.out | (with_reducible refine Kd.C_alloc ?_ _) | (with_reducible refine Kd.C_drewN ?_ _) | (with_reducible refine Kd.C_drew ?_))); (case side2_1 => exact HC0.out); rintro e w4 ⟨rfl, hb⟩; refine ⟨_, rfl, ?_⟩; have n0_ := Aside0.mk (below_step (by repeat (first | (with_reducible first | exact HB.out | apply below_alloc | apply pw_below_drewN | apply below_drew1) | exact HB.out)) hb); clear HB; have HB := n0_; clear n0_; (try clear hb); (try clear hb2); (try clear hk); (try clear hi)))
    go_ret2
    exact ⟨_, by first | rfl | (simp [errW_none, errW_some] <;> rfl) | (simp [*, errW_none, errW_some] <;> rfl), by first | exact Kd.R_nil _ _ _ _ _ | exact Kd.N_nil _ _ _ _ _ | exact Kd.V_nil _ _ _ _ _ | exact Kd.Q_nil _ _ _ _ _ | exact Kd.S_nil _ _ _ _ _, by repeat (first | (with_reducible first | exact HB.out | apply below_alloc | apply pw_below_drewN | apply below_drew1) | exact HB.out)⟩
  · replace c3 := Bool.eq_false_iff.mpr c3
    subst c3
    have H1 : (option_Encode.l0 k ([] : List Int) l0 (l0.length : Int) 0) = some (r1, r2) := by rw [if_neg (show ¬ (false = true) by decide)] at H; exact H
    clear H
    have H := H1
    clear H1
    have H' := Aside0.mk H
    clear H
    go_enter Try.func43, Try.ntmps43
    go_wp2_with (first | ((with_reducible refine gate_callee (f := 26) rfl ?_); refine goesL_ (some 10) rfl rfl Try.func26 (by kernel_rfl) rfl #[.slice A0 l0.length c0, .func (.func 51) #[] #[]] rfl (by (try simp only [List.map_toArray, List.map_cons, List.map_nil]); first | done | rfl | (simp only [List.length_drop, List.length_take]; rfl)) ?_; (with_reducible refine (slices_ContainsFuncO.calls k _ _ l0 420051 false _ ?side1_2 ?side2_2 A2.out).mono ?_); (case side1_2 => repeat (first | exact HR0.out | (with_reducible refine Kd.C_alloc ?_ _) | (with_reducible refine Kd.C_drewN ?_ _) | (with_reducible refine Kd.C_drew ?_))); (case side2_2 => exact HC0.out); rintro e w5 ⟨rfl, hb⟩; refine ⟨_, rfl, ?_⟩; have n0_ := Aside0.mk (below_step (by repeat (first | (with_reducible first | exact HB.out | apply below_alloc | apply pw_below_drewN | apply below_drew1) | exact HB.out)) hb); clear HB; have HB := n0_; clear n0_; (try clear hb); (try clear hb2); (try clear hk); (try clear hi)))
    go_loopg [5, 13] k (fun kq v5 v13 w' => ∃ (x5_1 : List Int) (x13_1 : Int), v13 = .int .i64 x13_1 ∧ Aside0 (option_Encode.l0 kq x5_1 l0 (l0.length : Int) x13_1 = some (r1, r2)) ∧ Aside0 (kq ≤ k) ∧ Aside0 (Kd.R (Kd.int .u8) 5 w' w.heap.size (fun _ => True) v5 x5_1) ∧ Aside0 (Below w.heap.size w w'))
    case atStart => exact ⟨(([] : List Int)), (0), (by first | rfl | (simp; done) | (simp [*]; done)), H', ⟨Nat.le_refl _⟩, ⟨by first | exact Kd.R_nil _ _ _ _ _ | exact Kd.N_nil _ _ _ _ _ | exact Kd.V_nil _ _ _ _ _ | exact Kd.Q_nil _ _ _ _ _ | exact Kd.S_nil _ _ _ _ _⟩, ⟨by repeat (first | (with_reducible first | exact HB.out | apply below_alloc | apply pw_below_drewN | apply below_drew1) | exact HB.out)⟩⟩
    case round =>
      clear H'
      try clear c2
      try clear p2
      try clear c3
      try clear c4
      obtain ⟨x5_1, x13_1, rfl, HA, HK1, HO_5, HB⟩ := hrel
      cases gk with
      | zero => exact absurd HA.out (by simp [option_Encode.l0])
      | succ k1 =>
        have H := HA.out
        clear HA
        simp only [option_Encode.l0] at H
        by_cases c6 : x13_1 < (l0.length : Int)
        · rw [if_pos c6] at H
          have c6b0 : decide (x13_1 < (l0.length : Int)) = true := decide_eq_true c6
          clear c6
          by_cases c7 : 0 ≤ x13_1
          · rw [if_pos c7] at H
            have c7b0 : decide (0 ≤ x13_1) = true := decide_eq_true c7
            clear c7
            by_cases c8 : x13_1 < (l0.length : Int)
            · rw [if_pos c8] at H
              have c8b0 : decide (x13_1 < (l0.length : Int)) = true := decide_eq_true c8
              clear c8
              obtain ⟨y108, hy108⟩ : ∃ y_ : List Int, y_ = (([((rd_T48 l0 x13_1).f0) % 256, ((((rd_T48 l0 x13_1).f1).length : Int)) % 256] : List Int)) := ⟨_, rfl⟩
              replace H : (if x5_1.length + y108.length < 140737488355328 then ((some (x5_1 ++ y108 : List Int)).bind fun y111 => (if y111.length + ((rd_T48 l0 x13_1).f1).length < 140737488355328 then (option_Encode.l0 k1 (y111 ++ ((rd_T48 l0 x13_1).f1)) l0 (l0.length : Int) (wrap64 (x13_1 + 1))) else (none))) else (none)) = some (r1, r2) := by first | (rw [hy108]; with_reducible exact H) | (have H2_ := (Option.bind_some _ _).symm.trans H; rw [hy108]; with_reducible exact H2_) | (have H2_ := (Option.bind_some _ _).symm.trans H; with_reducible exact H2_) | with_reducible exact H | (rw [hy108]; exact H) | exact H
              have Ny108 := Aside0.mk hy108
              clear hy108
              by_cases c9 : x5_1.length + y108.length < 140737488355328
              · rw [if_pos c9] at H
                have LMc9 := Aside0.mk c9
                clear c9
                obtain ⟨y111, hy111⟩ : ∃ y_ : List Int, y_ = (x5_1 ++ y108) := ⟨_, rfl⟩
                replace H : (if y111.length + ((rd_T48 l0 x13_1).f1).length < 140737488355328 then (option_Encode.l0 k1 (y111 ++ ((rd_T48 l0 x13_1).f1)) l0 (l0.length : Int) (wrap64 (x13_1 + 1))) else (none)) = some (r1, r2) := by first | (rw [hy111]; with_reducible exact H) | (have H2_ := (Option.bind_some _ _).symm.trans H; rw [hy111]; with_reducible exact H2_) | (have H2_ := (Option.bind_some _ _).symm.trans H; with_reducible exact H2_) | with_reducible exact H | (rw [hy111]; exact H) | exact H
                have Ny111 := Aside0.mk hy111
                clear hy111
                by_cases c10 : y111.length + ((rd_T48 l0 x13_1).f1).length < 140737488355328
                · rw [if_pos c10] at H
                  have LMc10 := Aside0.mk c10
                  clear c10
                  obtain ⟨y114, hy114⟩ : ∃ y_ : List Int, y_ = (y111 ++ ((rd_T48 l0 x13_1).f1)) := ⟨_, rfl⟩
                  replace H : (option_Encode.l0 k1 y114 l0 (l0.length : Int) (wrap64 (x13_1 + 1))) = some (r1, r2) := by first | (rw [hy114]; with_reducible exact H) | (have H2_ := (Option.bind_some _ _).symm.trans H; rw [hy114]; with_reducible exact H2_) | (have H2_ := (Option.bind_some _ _).symm.trans H; with_reducible exact H2_) | with_reducible exact H | (rw [hy114]; exact H) | exact H
                  have Ny114 := Aside0.mk hy114
                  clear hy114
                  have H' := Aside0.mk H
                  clear H
                  have p106 : 0 ≤ (x13_1 : Int) := of_decide_eq_true (by first | (with_reducible assumption) | assumption)
                  have q106 : x13_1 < (l0.length : Int) := of_decide_eq_true (by first | (with_reducible assumption) | assumption)
                  obtain ⟨ad106, A106_1, c106_1, e106, hx106_0, hx106_1, hl106_1, hi106_1⟩ := at_T48 HR0.out x13_1 p106 q106
                  cases e106
                  replace hx106_0 := (HB.out.cell (World.block_lt_of_cell? w _ hx106_0)).trans hx106_0
                  replace hx106_1 := (HB.out.cell (World.block_lt_of_cell? w _ hx106_1)).trans hx106_1
                  have HR106_1 := Aside0.mk hi106_1
                  have HC106_1 := Aside0.mk hl106_1
                  clear hi106_1 hl106_1
                  replace p106 := eq_true p106
                  replace q106 := eq_true q106
                  try go_wp2_with (first | ((with_reducible refine gate_dst (N := 7) rfl ?_); refine box_event ?hg_3 (N := 7) ?hd_3 (cs := #[.int .i64 0, .slice none 0 0]) (t := 48) ?hr_3 ?_; (case hd_3 => rfl); (case hg_3 => rfl); (case hr_3 => first | (go_simp; done) | (go_simp; rfl)); intro gb107 hg w11 hbox hb; have n0_ := Aside0.mk (Kd.R_below (by (with_reducible repeat (first | apply Kd.R_alloc | apply Kd.R_drewN | apply Kd.R_drew)); exact HO_5.out) hb); have n1_ := Aside0.mk (below_step (by repeat (first | (with_reducible first | exact HB.out | apply below_alloc | apply pw_below_drewN | apply below_drew1) | exact HB.out)) hb); have n2_ := Aside0.mk (hbox); have n3_ := Aside0.mk ((by rw [hg]; exact (below_size (by repeat (first | (with_reducible first | exact HB.out | apply below_alloc | apply pw_below_drewN | apply below_drew1) | exact HB.out))) : w.heap.size ≤ gb107)); have n4_ := Aside0.mk ((by rw [hg]; exact (below_size (by repeat (first | (with_reducible first | exact HB.out | apply below_alloc | apply pw_below_drewN | apply below_drew1) | exact HB.out))) : w.heap.size ≤ gb107)); clear HO_5; clear HB; have HO_5 := n0_; have HB := n1_; have BK107 := n2_; have GW107 := n3_; have GE107 := n4_; clear n0_ n1_ n2_ n3_ n4_; clear hb hbox hg; have hcz12_0 : w11.cell? ⟨gb107, 0, none⟩ = some (.int .i64 0) := (blk_cell BK107.out 0).trans rfl; have hcz12_1 : w11.cell? ⟨gb107, 1, none⟩ = some (.slice none 0 0) := (blk_cell BK107.out 1).trans rfl; have hfz12_0 := blk_frozen BK107.out 0; have hfz12_1 := blk_frozen BK107.out 1))
                  have n0_ : Aside0 (Kd.R (Kd.int .u8) 5 ((w11.setCell ⟨gb107, 0, none⟩ (.int .i64 ((rd_T48 l0 x13_1).f0))).setCell ⟨gb107, 1, none⟩ (.slice A106_1 ((rd_T48 l0 x13_1).f1).length c106_1)) w.heap.size (fun _ => True) u5 x5_1) := ⟨by (with_reducible repeat (first | apply Kd.R_alloc | apply Kd.R_drewN | apply Kd.R_drew)); exact Kd.R_mono (Kd.R_far (p := ⟨gb107, 1, none⟩) (Kd.R_far (p := ⟨gb107, 0, none⟩) (Kd.R_types HO_5.out BK107.out (by decide)) (fun _ hk => hk.2) (.int .i64 ((rd_T48 l0 x13_1).f0))) (fun _ hk => hk.2) (.slice A106_1 ((rd_T48 l0 x13_1).f1).length c106_1)) (fun _ hk => trivial)⟩
                  have n1_ : Aside0 (((w11.setCell ⟨gb107, 0, none⟩ (.int .i64 ((rd_T48 l0 x13_1).f0))).setCell ⟨gb107, 1, none⟩ (.slice A106_1 ((rd_T48 l0 x13_1).f1).length c106_1)).heap[gb107]? = some (.cells #[.int .i64 ((rd_T48 l0 x13_1).f0), .slice A106_1 ((rd_T48 l0 x13_1).f1).length c106_1] 48 (0, 0))) := ⟨by (with_reducible repeat (first | refine blk_drewN ?_ _ | refine blk_drew ?_ | refine blk_alloc ?_ _)); refine blk_put (cs := #[.int .i64 ((rd_T48 l0 x13_1).f0), .slice none 0 0]) ?_ 1 _ rfl; (with_reducible repeat (first | refine blk_drewN ?_ _ | refine blk_drew ?_ | refine blk_alloc ?_ _)); refine blk_put (cs := #[.int .i64 0, .slice none 0 0]) ?_ 0 _ rfl; (with_reducible repeat (first | refine blk_drewN ?_ _ | refine blk_drew ?_ | refine blk_alloc ?_ _)); exact BK107.out⟩
                  have n2_ : Aside0 (Below w.heap.size w ((w11.setCell ⟨gb107, 0, none⟩ (.int .i64 ((rd_T48 l0 x13_1).f0))).setCell ⟨gb107, 1, none⟩ (.slice A106_1 ((rd_T48 l0 x13_1).f1).length c106_1))) := ⟨by repeat (first | (with_reducible first | exact HB.out | apply below_alloc | apply pw_below_drewN | apply below_drew1 | refine below_set ?_ GE107.out) | exact HB.out)⟩
                  (try clear HO_5)
                  (try clear BK107)
                  (try clear HB)
                  generalize ((w11.setCell ⟨gb107, 0, none⟩ (.int .i64 ((rd_T48 l0 x13_1).f0))).setCell ⟨gb107, 1, none⟩ (.slice A106_1 ((rd_T48 l0 x13_1).f1).length c106_1)) = w13 at n0_ n1_ n2_ ⊢
                  have HO_5 := n0_
                  have BK107 := n1_
                  have HB := n2_
                  clear n0_ n1_ n2_
                  have n0_ := Aside0.mk (Kd.R_drew HO_5.out)
                  have n1_ := Aside0.mk (blk_drew BK107.out)
                  have n2_ := Aside0.mk (below_drew1 HB.out)
                  clear HO_5
                  clear BK107
                  clear HB
                  have HO_5 := n0_
                  have BK107 := n1_
                  have HB := n2_
                  clear n0_ n1_ n2_
                  refine start_ (n := 14) (S := fun w' => w'.cell? ⟨gb107, 0, none⟩ = some (.int .i64 ((rd_T48 l0 x13_1).f0)) ∧ w'.cell? ⟨gb107, 1, none⟩ = some (.slice A106_1 ((rd_T48 l0 x13_1).f1).length c106_1)) (ds := []) #[false, false, false, false, false, false, false, false, false, false, false, false, false, false] (by kernel_rfl) rfl rfl ⟨(blk_cell BK107.out 0).trans rfl, (blk_cell BK107.out 1).trans rfl⟩ (fun hHeld => ?_); refine with_tabW option_Encode.tab8 option_Encode.bits8 (fun HT_ HW_ => ?_)
                  generalize w13.drew = w14 at HO_5 BK107 HB hHeld ⊢
                  refine pure_ (i := 0) (N := some 17) (v := ?_) (a' := ?_) #[true, false, false, false, false, false, false, false, false, false, false, false, false, false] rfl rfl (any_of HT_.out (by kernel_rfl)) (fun _ _ _ h => h) (Or.inl ⟨by rfl, ?_⟩) ?_ ?_
                  rotate_left
                  · intro w'
                    go_simp
                    with_reducible rfl
                  rotate_left
                  · simp only [Act.put, List.setIfInBounds_toArray, List.set_cons_zero, List.set_cons_succ, i64_w, i32_w]
                    rfl
                  refine pure_ (i := 1) (N := some 18) (v := ?_) (a' := ?_) #[true, true, false, false, false, false, false, false, false, false, false, false, false, false] rfl rfl (any_of HT_.out (by kernel_rfl)) (fun _ _ _ h => h) (Or.inl ⟨by rfl, ?_⟩) ?_ ?_
                  rotate_left
                  · intro w'
                    go_simp
                    with_reducible rfl
                  rotate_left
                  · simp only [Act.put, List.setIfInBounds_toArray, List.set_cons_zero, List.set_cons_succ, i64_w, i32_w]
                    rfl
                  refine pure_ (i := 4) (N := some 21) (v := ?_) (a' := ?_) #[true, true, false, false, true, false, false, false, false, false, false, false, false, false] rfl rfl (any_of HT_.out (by kernel_rfl)) (fun _ _ _ h => h) (Or.inl ⟨by rfl, ?_⟩) ?_ ?_
                  rotate_left
                  · intro w'
                    go_simp
                    with_reducible rfl
                  rotate_left
                  · simp only [Act.put, List.setIfInBounds_toArray, List.set_cons_zero, List.set_cons_succ, i64_w, i32_w]
                    rfl
                  refine pure_ (i := 10) (N := some 27) (v := ?_) (a' := ?_) #[true, true, false, false, true, false, false, false, false, false, true, false, false, false] rfl rfl (any_of HT_.out (by kernel_rfl)) (fun _ _ _ h => h) (Or.inl ⟨by rfl, ?_⟩) ?_ ?_
                  rotate_left
                  · intro w'
                    go_simp
                    with_reducible rfl
                  rotate_left
                  · simp only [Act.put, List.setIfInBounds_toArray, List.set_cons_zero, List.set_cons_succ, i64_w, i32_w]
                    rfl
                  refine take_ (i := 2) (N := some 19) (v := ?_) (a' := ?_) #[true, true, true, false, true, false, false, false, false, false, true, false, false, false] rfl rfl (take_ofW HT_.out HW_.out (by kernel_rfl)) (fun _ _ _ h => h) (Or.inl ⟨by rfl, ?_⟩) hHeld ?_ ?_
                  rotate_left
                  · rintro w' ⟨s0, s1⟩
                    go_simp
                    with_reducible rfl
                  rotate_left
                  · simp only [Act.put, List.setIfInBounds_toArray, List.set_cons_zero, List.set_cons_succ, i64_w, i32_w]
                    rfl
                  refine pure_ (i := 3) (N := some 20) (v := ?_) (a' := ?_) #[true, true, true, true, true, false, false, false, false, false, true, false, false, false] rfl rfl (any_of HT_.out (by kernel_rfl)) (fun _ _ _ h => h) (Or.inl ⟨by rfl, ?_⟩) ?_ ?_
                  rotate_left
                  · intro w'
                    go_simp
                    with_reducible rfl
                  rotate_left
                  · simp only [Act.put, List.setIfInBounds_toArray, List.set_cons_zero, List.set_cons_succ, i64_w, i32_w]
                    rfl
                  refine take_ (i := 5) (N := some 22) (v := ?_) (a' := ?_) #[true, true, true, true, true, true, false, false, false, false, true, false, false, false] rfl rfl (take_ofW HT_.out HW_.out (by kernel_rfl)) (fun _ _ _ h => h) (Or.inl ⟨by rfl, ?_⟩) hHeld ?_ ?_
                  rotate_left
                  · rintro w' ⟨s0, s1⟩
                    go_simp
                    with_reducible rfl
                  rotate_left
                  · simp only [Act.put, List.setIfInBounds_toArray, List.set_cons_zero, List.set_cons_succ, i64_w, i32_w]
                    rfl
                  refine pure_ (i := 6) (N := some 23) (v := ?_) (a' := ?_) #[true, true, true, true, true, true, true, false, false, false, true, false, false, false] rfl rfl (any_of HT_.out (by kernel_rfl)) (fun _ _ _ h => h) (Or.inl ⟨by rfl, ?_⟩) ?_ ?_
                  rotate_left
                  · intro w'
                    go_simp
                    with_reducible rfl
                  rotate_left
                  · simp only [Act.put, List.setIfInBounds_toArray, List.set_cons_zero, List.set_cons_succ, i64_w, i32_w]
                    rfl
                  refine pure_ (i := 7) (N := some 24) (v := ?_) (a' := ?_) #[true, true, true, true, true, true, true, true, false, false, true, false, false, false] rfl rfl (any_of HT_.out (by kernel_rfl)) (fun _ _ _ h => h) (Or.inl ⟨by rfl, ?_⟩) ?_ ?_
                  rotate_left
                  · intro w'
                    go_simp
                    with_reducible rfl
                  rotate_left
                  · simp only [Act.put, List.setIfInBounds_toArray, List.set_cons_zero, List.set_cons_succ, i64_w, i32_w]
                    rfl
                  refine take_ (i := 11) (N := some 28) (v := ?_) (a' := ?_) #[true, true, true, true, true, true, true, true, false, false, true, true, false, false] rfl rfl (take_ofW HT_.out HW_.out (by kernel_rfl)) (fun _ _ _ h => h) (Or.inl ⟨by rfl, ?_⟩) hHeld ?_ ?_
                  rotate_left
                  · rintro w' ⟨s0, s1⟩
                    go_simp
                    with_reducible rfl
                  rotate_left
                  · simp only [Act.put, List.setIfInBounds_toArray, List.set_cons_zero, List.set_cons_succ, i64_w, i32_w]
                    rfl
                  refine one_ (i := 8) (N := some 25) #[true, true, true, true, true, true, true, true, true, false, true, true, false, false] rfl rfl (one_of HT_.out (by kernel_rfl)) (by decide) (fun K hK => ?_)
                  refine Kd.R_lit_step (Kd.int .u8) _ 5 ?hg_4 (N := 25) ?hd_4 (xs := ([((rd_T48 l0 x13_1).f0) % 256, ((((rd_T48 l0 x13_1).f1).length : Int)) % 256] : List Int)) (inner := [.int .u8 (((rd_T48 l0 x13_1).f0) % 256), .int .u8 (((((rd_T48 l0 x13_1).f1).length : Int)) % 256)]) (ok := fun _ => True) (okp := fun _ => True) ?hr_4 ?hp_4 (fun _ hk => hk) trivial (Below.refl _ _) (Nat.le_refl _) (by simp) ?_; (case hd_4 => rfl); (case hg_4 => rfl); (case hr_4 => first | (go_simp; done) | (go_simp; rfl)); (case hp_4 => exact (Reps.one (show Kd.M (Kd.int .u8) _ _ _ (((rd_T48 l0 x13_1).f0) % 256) [.int .u8 (((rd_T48 l0 x13_1).f0) % 256)] from rfl) (Reps.one (show Kd.M (Kd.int .u8) _ _ _ (((((rd_T48 l0 x13_1).f1).length : Int)) % 256) [.int .u8 (((((rd_T48 l0 x13_1).f1).length : Int)) % 256)] from rfl) (Reps.none _ _))))
                  intro v109 w15 ho16 hb hg_ hnew_
                  clear hg_ hnew_
                  (first | rw [← Ny108.out] at ho16 | (simp only [Int.reduceToNat] at ho16; rw [← Ny108.out] at ho16))
                  have n0_ := Aside0.mk (Kd.R_elder' (by (with_reducible repeat (first | apply Kd.R_alloc | apply Kd.R_drewN | apply Kd.R_drew)); exact HO_5.out) (Kd.R_base ho16) hb)
                  have n1_ := Aside0.mk (Kd.R_lower (Kd.R_new' ho16 (Kd.R_lt (by (with_reducible repeat (first | apply Kd.R_alloc | apply Kd.R_drewN | apply Kd.R_drew)); exact HO_5.out))) (below_size (by repeat (first | (with_reducible first | exact HB.out | apply below_alloc | apply pw_below_drewN | apply below_drew1 | refine below_set ?_ GE107.out) | exact HB.out))))
                  have n2_ := Aside0.mk (blk_below (g := gb107) (o := .cells #[.int .i64 ((rd_T48 l0 x13_1).f0), .slice A106_1 ((rd_T48 l0 x13_1).f1).length c106_1] 48 (0, 0)) (by (with_reducible repeat (first | refine blk_drewN ?_ _ | refine blk_drew ?_ | refine blk_alloc ?_ _)); exact BK107.out) hb)
                  have n3_ := Aside0.mk (below_step (by repeat (first | (with_reducible first | exact HB.out | apply below_alloc | apply pw_below_drewN | apply below_drew1 | refine below_set ?_ GE107.out) | exact HB.out)) hb)
                  clear HO_5
                  clear BK107
                  clear HB
                  have HO_5 := n0_
                  have HO110 := n1_
                  have BK107 := n2_
                  have HB := n3_
                  clear n0_ n1_ n2_ n3_
                  clear hb ho16
                  obtain ⟨Ao18, co18, eo18⟩ := Kd.R_slice HO110.out
                  (first | subst eo18 | (injection eo18 with f1_ f2_ f3_; have f4_ := f1_.symm; have f5_ := f3_.symm; clear f1_ f2_ f3_; subst f4_; subst f5_))
                  refine hK.out _ _ ⟨(blk_cell BK107.out 0).trans rfl, (blk_cell BK107.out 1).trans rfl⟩ (fun hHeld => ?_)
                  clear hK K
                  refine norm_ (a' := ?_) ?_ ?_
                  rotate_left
                  · show Act.put _ (some 25) _ = _
                    simp only [Act.put, List.setIfInBounds_toArray, List.set_cons_zero, List.set_cons_succ, i64_w, i32_w]
                    rfl
                  refine one_ (i := 9) (N := some 26) #[true, true, true, true, true, true, true, true, true, true, true, true, false, false] rfl rfl (one_of HT_.out (by kernel_rfl)) (by decide) (fun K hK => ?_)
                  refine Kd.R_append_rows_step (Kd.int .u8) (w0 := w) w.heap.size (by rfl) (.tmp 17) (.tmp 25) 25 5 (.int .u8 0) 1 rfl Try.underlying25 info5 rfl (by decide) (by omega) u5 x5_1 y108 _ _ _ (fun k_ => some k_ ≠ (.slice Ao18 y108.length co18 : Value).ownBlock) (fun _ => False) rfl rfl ?aO_5 ?aR_5 (fun _ _ h => h) (fun _ h => h.elim) ?aF_5 ?aB_5 ?aS_5 ?aL_5 ?_
                  (case aR_5 => repeat (first | exact (Kd.R_reads' HO110.out).2.2 | (with_reducible refine Kd.C_alloc ?_ _) | (with_reducible refine Kd.C_drewN ?_ _) | (with_reducible refine Kd.C_drew ?_)))
                  (case aB_5 => exact (by repeat (first | (with_reducible first | exact HB.out | apply below_alloc | apply pw_below_drewN | apply below_drew1 | refine below_set ?_ GE107.out) | exact HB.out)))
                  (case aF_5 => exact (fun k_ hk => Kd.fresh' (Kd.R_lt (by (with_reducible repeat (first | apply Kd.R_alloc | apply Kd.R_drewN | apply Kd.R_drew)); exact HO110.out)) k_ hk))
                  (case aO_5 => exact (by (with_reducible repeat (first | apply Kd.R_alloc | apply Kd.R_drewN | apply Kd.R_drew)); exact Kd.R_mono HO_5.out (fun _ hk => hk.2)))
                  (case aS_5 => exact (below_size (by repeat (first | (with_reducible first | exact HB.out | apply below_alloc | apply pw_below_drewN | apply below_drew1 | refine below_set ?_ GE107.out) | exact HB.out))))
                  (case aL_5 => have := LMc9.out; omega)
                  intro v112 w17 ho hb hg hat
                  rw [← Ny111.out] at ho
                  have n0_ := Aside0.mk (blk_grown (g := gb107) (o := .cells #[.int .i64 ((rd_T48 l0 x13_1).f0), .slice A106_1 ((rd_T48 l0 x13_1).f1).length c106_1] 48 (0, 0)) (by (with_reducible repeat (first | refine blk_drewN ?_ _ | refine blk_drew ?_ | refine blk_alloc ?_ _)); exact BK107.out) hg (Kd.R_ne HO_5.out BK107.out (by decide)))
                  have n1_ := Aside0.mk (Kd.R_after (ok := (fun _ => True)) (by (with_reducible repeat (first | apply Kd.R_alloc | apply Kd.R_drewN | apply Kd.R_drew)); exact HO110.out) hg hat)
                  have n2_ := Aside0.mk (hb)
                  have n3_ := Aside0.mk (ho)
                  clear BK107
                  clear HO110
                  clear HB
                  clear HO_5
                  have BK107 := n0_
                  have HO110 := n1_
                  have HB := n2_
                  have HO113 := n3_
                  clear n0_ n1_ n2_ n3_
                  clear ho hb hg hat
                  refine hK.out _ _ ⟨(blk_cell BK107.out 0).trans rfl, (blk_cell BK107.out 1).trans rfl⟩ (fun hHeld => ?_)
                  clear hK K
                  refine norm_ (a' := ?_) ?_ ?_
                  rotate_left
                  · show Act.put _ (some 26) _ = _
                    simp only [Act.put, List.setIfInBounds_toArray, List.set_cons_zero, List.set_cons_succ, i64_w, i32_w]
                    rfl
                  refine one_ (i := 12) (N := some 29) #[true, true, true, true, true, true, true, true, true, true, true, true, true, false] rfl rfl (one_of HT_.out (by kernel_rfl)) (by decide) (fun K hK => ?_)
                  refine Kd.R_append_rows_step (Kd.int .u8) (w0 := w) w.heap.size (by rfl) (.tmp 26) (.tmp 28) 25 5 (.int .u8 0) 1 rfl Try.underlying25 info5 rfl (by decide) (by omega) v112 y111 ((rd_T48 l0 x13_1).f1) _ _ _ (fun k_ => some k_ ≠ (.slice Ao18 y108.length co18 : Value).ownBlock) (fun _ => False) rfl rfl ?aO_6 ?aR_6 (fun _ _ h => h) (fun _ h => h.elim) ?aF_6 ?aB_6 ?aS_6 ?aL_6 ?_
                  (case aR_6 => repeat (first | exact (Kd.C_below HR106_1.out HB.out) | exact (Kd.C_below (Aside0.out (by assumption)) HB.out) | (with_reducible refine Kd.C_alloc ?_ _) | (with_reducible refine Kd.C_drewN ?_ _) | (with_reducible refine Kd.C_drew ?_)))
                  (case aB_6 => exact (by repeat (first | (with_reducible first | exact HB.out | apply below_alloc | apply pw_below_drewN | apply below_drew1 | refine below_set ?_ GE107.out) | exact HB.out)))
                  (case aF_6 => exact (fun k_ hk => Kd.fresh' (Kd.R_lt (by (with_reducible repeat (first | apply Kd.R_alloc | apply Kd.R_drewN | apply Kd.R_drew)); exact HO110.out)) k_ hk))
                  (case aO_6 => exact (by (with_reducible repeat (first | apply Kd.R_alloc | apply Kd.R_drewN | apply Kd.R_drew)); exact HO113.out))
                  (case aS_6 => exact (below_size (by repeat (first | (with_reducible first | exact HB.out | apply below_alloc | apply pw_below_drewN | apply below_drew1 | refine below_set ?_ GE107.out) | exact HB.out))))
                  (case aL_6 => have := LMc10.out; omega)
                  intro v115 w19 ho hb hg hat
                  rw [← Ny114.out] at ho
                  have n0_ := Aside0.mk (blk_grown (g := gb107) (o := .cells #[.int .i64 ((rd_T48 l0 x13_1).f0), .slice A106_1 ((rd_T48 l0 x13_1).f1).length c106_1] 48 (0, 0)) (by (with_reducible repeat (first | refine blk_drewN ?_ _ | refine blk_drew ?_ | refine blk_alloc ?_ _)); exact BK107.out) hg (Kd.R_ne HO113.out BK107.out (by decide)))
                  have n1_ := Aside0.mk (Kd.R_after (ok := (fun _ => True)) (by (with_reducible repeat (first | apply Kd.R_alloc | apply Kd.R_drewN | apply Kd.R_drew)); exact HO110.out) hg hat)
                  have n2_ := Aside0.mk (hb)
                  have n3_ := Aside0.mk (ho)
                  clear BK107
                  clear HO110
                  clear HB
                  clear HO113
                  have BK107 := n0_
                  have HO110 := n1_
                  have HB := n2_
                  have HO116 := n3_
                  clear n0_ n1_ n2_ n3_
                  clear ho hb hg hat
                  refine hK.out _ _ ⟨(blk_cell BK107.out 0).trans rfl, (blk_cell BK107.out 1).trans rfl⟩ (fun hHeld => ?_)
                  clear hK K
                  refine norm_ (a' := ?_) ?_ ?_
                  rotate_left
                  · show Act.put _ (some 29) _ = _
                    simp only [Act.put, List.setIfInBounds_toArray, List.set_cons_zero, List.set_cons_succ, i64_w, i32_w]
                    rfl
                  refine pure_ (i := 13) (N := some 5) (v := ?_) (a' := ?_) #[true, true, true, true, true, true, true, true, true, true, true, true, true, true] rfl rfl (any_of HT_.out (by kernel_rfl)) (fun _ _ _ h => h) (Or.inl ⟨by rfl, ?_⟩) ?_ ?_
                  rotate_left
                  · intro w'
                    go_simp
                    with_reducible rfl
                  rotate_left
                  · simp only [Act.put, List.setIfInBounds_toArray, List.set_cons_zero, List.set_cons_succ, i64_w, i32_w]
                    rfl
                  refine done_ (done_of HT_.out (by kernel_rfl)) ?_
                  try go_wp2
                  go_roundg k1
                  case measure => have := HK1.out; omega
                  case rel => exact ⟨(y114), (wrap64 (x13_1 + 1)), (by first | rfl | (simp; done) | (simp [*]; done)), H', ⟨by have := HK1.out; omega⟩, ⟨by (with_reducible repeat (first | apply Kd.R_alloc | apply Kd.R_drewN | apply Kd.R_drew)); exact Kd.R_mono HO116.out (fun _ hk => trivial)⟩, ⟨by repeat (first | (with_reducible first | exact HB.out | apply below_alloc | apply pw_below_drewN | apply below_drew1 | refine below_set ?_ GE107.out) | exact HB.out)⟩⟩
                · rw [if_neg c10] at H
                  exact absurd H (by simp)
              · rw [if_neg c9] at H
                exact absurd H (by simp)
            · rw [if_neg c8] at H
              exact absurd H (by simp)
          · rw [if_neg c7] at H
            exact absurd H (by simp)
        · rw [if_neg c6] at H
          have c6b0 : decide (x13_1 < (l0.length : Int)) = false := decide_eq_false c6
          clear c6
          by_cases c20 : x5_1.length < 140737488355328
          · rw [if_pos c20] at H
            have LMc20 := Aside0.mk c20
            clear c20
            obtain ⟨y117, hy117⟩ : ∃ y_ : List Int, y_ = (x5_1 ++ [255]) := ⟨_, rfl⟩
            replace H : (if (y117.length : Int) > 1024 then (some (([] : List Int), 3)) else (some (y117, 0))) = some (r1, r2) := by first | (rw [hy117]; with_reducible exact H) | (have H2_ := (Option.bind_some _ _).symm.trans H; rw [hy117]; with_reducible exact H2_) | (have H2_ := (Option.bind_some _ _).symm.trans H; with_reducible exact H2_) | with_reducible exact H | (rw [hy117]; exact H) | exact H
            have Ny117 := Aside0.mk hy117
            clear hy117
            by_cases c21 : (y117.length : Int) > 1024
            · rw [if_pos c21] at H
              have c21b0 : decide (1024 < (y117.length : Int)) = true := decide_eq_true c21
              have c21b1 : decide (1024 < y117.length) = true := decide_eq_true (by omega)
              clear c21
              simp only [Option.some.injEq, Prod.mk.injEq] at H
              obtain ⟨rfl, rfl⟩ := H
              go_wp2_with (first | ((with_reducible refine gate_builtin (b := .append) (xs := #[.tmp 31, .tmp 32]) rfl ?_); at_builtin; refine Kd.R_append (Kd.int .u8) (w0 := w) w.heap.size rfl (.tmp 31) (.tmp 32) 25 5 (.int .u8 0) 1 rfl Try.underlying25 info5 rfl (by decide) (by omega) u5 x5_1 255 [.int .u8 255] (fun _ => True) (fun _ => False) rfl rfl ?aP_7 (fun _ hk => hk.elim) ?aF_7 ?aO_7 ?aB_7 ?aS_7 ?aL_7 ?_; (case aP_7 => exact rfl); (case aB_7 => exact (by repeat (first | (with_reducible first | exact HB.out | apply below_alloc | apply pw_below_drewN | apply below_drew1) | exact HB.out))); (case aF_7 => exact (fun _ _ => trivial)); (case aO_7 => exact (by (with_reducible repeat (first | apply Kd.R_alloc | apply Kd.R_drewN | apply Kd.R_drew)); exact HO_5.out)); (case aS_7 => exact (below_size (by repeat (first | (with_reducible first | exact HB.out | apply below_alloc | apply pw_below_drewN | apply below_drew1) | exact HB.out)))); (case aL_7 => have := LMc20.out; omega); intro v118 w22 ho hb hg hat; rw [← Ny117.out] at ho; have n0_ := Aside0.mk (hb); have n1_ := Aside0.mk (ho); clear HB; clear HO_5; have HB := n0_; have HO119 := n1_; clear n0_ n1_; clear ho hb hg hat; obtain ⟨Ao23, co23, eo23⟩ := Kd.R_slice HO119.out; subst eo23))
              go_ret2
              exact ⟨_, by first | rfl | (simp [errW_none, errW_some] <;> rfl) | (simp [*, errW_none, errW_some] <;> rfl), by first | exact Kd.R_nil _ _ _ _ _ | exact Kd.N_nil _ _ _ _ _ | exact Kd.V_nil _ _ _ _ _ | exact Kd.Q_nil _ _ _ _ _ | exact Kd.S_nil _ _ _ _ _, by repeat (first | (with_reducible first | exact HB.out | apply below_alloc | apply pw_below_drewN | apply below_drew1) | exact HB.out)⟩
            · rw [if_neg c21] at H
              have c21b0 : decide (1024 < (y117.length : Int)) = false := decide_eq_false c21
              have c21b1 : decide (1024 < y117.length) = false := decide_eq_false (by omega)
              clear c21
              simp only [Option.some.injEq, Prod.mk.injEq] at H
              obtain ⟨rfl, rfl⟩ := H
              go_wp2_with (first | ((with_reducible refine gate_builtin (b := .append) (xs := #[.tmp 31, .tmp 32]) rfl ?_); at_builtin; refine Kd.R_append (Kd.int .u8) (w0 := w) w.heap.size rfl (.tmp 31) (.tmp 32) 25 5 (.int .u8 0) 1 rfl Try.underlying25 info5 rfl (by decide) (by omega) u5 x5_1 255 [.int .u8 255] (fun _ => True) (fun _ => False) rfl rfl ?aP_8 (fun _ hk => hk.elim) ?aF_8 ?aO_8 ?aB_8 ?aS_8 ?aL_8 ?_; (case aP_8 => exact rfl); (case aB_8 => exact (by repeat (first | (with_reducible first | exact HB.out | apply below_alloc | apply pw_below_drewN | apply below_drew1) | exact HB.out))); (case aF_8 => exact (fun _ _ => trivial)); (case aO_8 => exact (by (with_reducible repeat (first | apply Kd.R_alloc | apply Kd.R_drewN | apply Kd.R_drew)); exact HO_5.out)); (case aS_8 => exact (below_size (by repeat (first | (with_reducible first | exact HB.out | apply below_alloc | apply pw_below_drewN | apply below_drew1) | exact HB.out)))); (case aL_8 => have := LMc20.out; omega); intro v118 w24 ho hb hg hat; rw [← Ny117.out] at ho; have n0_ := Aside0.mk (hb); have n1_ := Aside0.mk (ho); clear HB; clear HO_5; have HB := n0_; have HO119 := n1_; clear n0_ n1_; clear ho hb hg hat; obtain ⟨Ao25, co25, eo25⟩ := Kd.R_slice HO119.out; subst eo25))
              go_ret2
              exact ⟨_, by first | rfl | (simp [errW_none, errW_some] <;> rfl) | (simp [*, errW_none, errW_some] <;> rfl), by (with_reducible repeat (first | apply Kd.R_alloc | apply Kd.R_drewN | apply Kd.R_drew)); exact HO119.out, by repeat (first | (with_reducible first | exact HB.out | apply below_alloc | apply pw_below_drewN | apply below_drew1) | exact HB.out)⟩
          · rw [if_neg c20] at H
            exact absurd H (by simp)

end Go.Proofs.Ytnkajghemggaaaa.Pr
end
