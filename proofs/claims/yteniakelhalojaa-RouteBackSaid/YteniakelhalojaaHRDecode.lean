/-
  route.Decode in the print's form. Condition: bytes, fewer than 2^40.
-/
import Derived.Test.YteniakelhalojaaHRoutes
namespace Go.Proofs.Yteniakelhalojaa
open Go.RowKit Go.Proofs.Yteniakelhalojaa.Pn Go.Proofs.YteniakelhalojaaW.PrintWords Go.Proofs.YteniakelhalojaaW.PrintLast Go.Proofs.YteniakelhalojaaW.PrintMore
attribute [local go_sem] max2_int min2_int max_two min_two max_three min_three max_four min_four Oper.semAt_some
set_option linter.unusedVariables false
set_option linter.unusedSimpArgs false

theorem routes_calls (A0 : Option Addr) (n c0 : Nat) (w : World) :
    Calls Try.prog 32 #[.slice A0 n c0] w fun e w' => e = .returned (.func (.func 34) #[] #[.pointer (some ⟨w.heap.size, 0, none⟩)]) ∧ w' = w.alloc (.cells #[.slice A0 n c0] 24) := by
  go_enter Try.func32, Try.ntmps32
  go_wp2
  go_ret
  exact ⟨rfl, rfl⟩

/-- A round whose assignment turns the world. -/
theorem rf_roundA {P : Program} {n l : Nat} {W W1 : World} {args : Array Value} (R : Bool → Option Code → World → Prop) {fn : FuncId} {tmps : Array Value} {ps : Array Tmp} {assign body : Code} {dk : Nat} {r : LoopState → Option Code → Loop}
    (hr : r = rfRec fn tmps ps assign body dk) (hl : W.heap[l]? = some (.loop (r .ready none))) (hl1 : W1.heap[l]? = some (.loop (r .ready none))) (hs : args.size = ps.size) (a₁ : Act)
    (hassign : ∀ K : Act → World → Prop, K a₁ W1 → assign.wpIn (Fence.wide.inRound l) n P (Exit.then K (fun _ _ _ => False)) { tmps := (ps.zip args).foldl (fun t (p, v) => t.setIfInBounds p v) tmps, defers := [] } W)
    (hbody : body.wpIn (Fence.wide.inRound l) n P (rfPost r l R) a₁ (W1.putObj l (.loop (r .busy none)))) :
    YieldAt Fence.wide n P l args W fun e W' => ∃ b jump, e = .returned (.bool b) ∧ R b jump W' ∧ (b = true → jump = none) := by
  subst hr
  have hy := run_yield (P := P) (args := args) hl (by simpa [rfRec] using hs)
  refine ⟨fn, _, assign, body, hy, roundIn_of_wpIn trivial (hassign _ ⟨_, run_beginRound hl1 rfl, ?_⟩)⟩
  refine wpIn_mono hbody ?_
  intro e a W3 hp
  cases e with
  | normal =>
    obtain ⟨hb, hr⟩ := hp
    exact ⟨_, _, run_endRound (P := P) none hb, true, none, rfl, hr, fun _ => rfl⟩
  | ret =>
    obtain ⟨hb, hr⟩ := hp
    exact ⟨_, _, run_endRound (P := P) (some .ret) hb, false, some .ret, rfl, hr, fun h => by cases h⟩
  | exit id =>
    obtain ⟨hb, hr⟩ := hp
    exact ⟨_, _, run_endRound (P := P) (some (.exit id)) hb, false, some (.exit id), rfl, hr, fun h => by cases h⟩
  | goto t => exact hp.elim
  | panic ch => exact hp.elim
  | outgrown => exact hp.elim

theorem grown_heapR {α : Type} {d : Kd α} {e : Nat} {w w1 : World} {base : Nat} {ok : Nat → Prop} {v : Value} {xs : List α} (h : Kd.R d e w base ok v xs) (hg : w.grownBy w1 v.ownBlock) {k : Nat} {o : Obj} (hk : w.heap[k]? = some o) (ho : o.isCells = false) : w1.heap[k]? = some o := by
  refine (hg.block k (lt_of_heap hk) ?_).trans hk
  intro e
  obtain ⟨cells, hc⟩ := Kd.R_typed h k e.symm
  rw [hk] at hc; cases hc; cases ho
theorem rinfo : (Try.prog.info? 32).map (fun i => (i.zero, i.size, i.bytes)) = some (some (.agg #[.int .u32 0, .int .i64 0, .int .u32 0]), 3, 24) := by kernel_rfl
/-! ### what Decode hands back -/
def rdR (l : List Int) : List RtE × Int := if 255 < l.length then ([], 2) else match rdGo l [] with | some m => (m, 0) | none => ([], 2)
def route_Decode.f (l0 : List Int) : Option (List RtE × Int) := if (∀ x ∈ l0, 0 ≤ x ∧ x ≤ 255) ∧ l0.length < 1099511627776 then some (rdR l0) else none

/-- Between two rounds. -/
structure RdJ (w : World) (D : Nat) (r : Loop) (pre : List RtE) (W : World) : Prop where
  b0 : Boxed W w.heap.size 22 (.slice none 0 0)
  b1 : Boxed W (w.heap.size + 1) 25 (.int .i64 0)
  row : ∃ A c, Boxed W (w.heap.size + 2) 22 (.slice A pre.length c) ∧ Kd.R k32 32 W w.heap.size (fun _ => True) (.slice A pre.length c) pre
  below : Below w.heap.size w W
  loop : W.heap[D + 1]? = some (.loop r)
  coll : W.heap[D]? = some (.deferred (some []))
/-- Behind the last. -/
structure RdE (w : World) (D : Nat) (r : Loop) (res : List RtE × Int) (W : World) : Prop where
  row : ∃ A c, Boxed W w.heap.size 22 (.slice A res.1.length c) ∧ Kd.R k32 32 W w.heap.size (fun _ => True) (.slice A res.1.length c) res.1
  b1 : Boxed W (w.heap.size + 1) 25 (.int .i64 res.2)
  below : Below w.heap.size w W
  loop : W.heap[D + 1]? = some (.loop r)
  coll : W.heap[D]? = some (.deferred (some []))
theorem RdJ.grow {w W W' : World} {D : Nat} {r : Loop} {pre : List RtE} (h : RdJ w D r pre W) (hg : Below W.heap.size W W') : RdJ w D r pre W' := by
  obtain ⟨A, c, bo, hs⟩ := h.row
  exact ⟨boxed_below h.b0 hg, boxed_below h.b1 hg, ⟨A, c, boxed_below bo hg, Kd.R_below hs hg⟩, below_then h.below h.below.size hg, below_heap hg h.loop, below_heap hg h.coll⟩
theorem RdJ.set {w W : World} {D : Nat} {r : Loop} {pre : List RtE} (h : RdJ w D r pre W) {q : Nat} {v : Value} (u : Value) (hq : Boxed W q 24 v) (hq3 : w.heap.size + 2 < q) : RdJ w D r pre (W.setCell ⟨q, 0, none⟩ u) := by
  obtain ⟨A, c, bo, hs⟩ := h.row
  exact ⟨boxed_set_other u h.b0 (by omega), boxed_set_other u h.b1 (by omega), ⟨A, c, boxed_set_other u bo (by omega), Kd.R_set hs hq (by decide) 0 u⟩, h.below.setCell (p := ⟨q, 0, none⟩) (show w.heap.size ≤ q by omega) u,
    set_heap hq h.loop rfl, set_heap hq h.coll rfl⟩

/-- The answer laid, the round left. -/
theorem rd_end {w W : World} {D : Nat} {r : LoopState → Option Code → Loop} {v0 z0 : Value} {A : Option Addr} {c : Nat} {z : Int} {xs : List RtE} (c0 : Boxed W w.heap.size 22 v0) (c1 : Boxed W (w.heap.size + 1) 25 z0)
    (hS : Kd.R k32 32 W w.heap.size (fun _ => True) (.slice A xs.length c) xs) (hB : Below w.heap.size w W) (hl : W.heap[D + 1]? = some (.loop (r .busy none))) (hd : W.heap[D]? = some (.deferred (some []))) (hD : w.heap.size + 4 ≤ D) :
    ((W.setCell ⟨w.heap.size, 0, none⟩ (.slice A xs.length c)).setCell ⟨w.heap.size + 1, 0, none⟩ (.int .i64 z)).heap[D + 1]? = some (.loop (r .busy none)) ∧
      RdE w D (r .done (some .ret)) (xs, z) (((W.setCell ⟨w.heap.size, 0, none⟩ (.slice A xs.length c)).setCell ⟨w.heap.size + 1, 0, none⟩ (.int .i64 z)).putObj (D + 1) (.loop (r .done (some .ret)))) := by
  have d1 := boxed_set_other (B' := w.heap.size) (.slice A xs.length c) c1 (by omega)
  have e0 := boxed_set_other (B' := w.heap.size + 1) (.int .i64 z) (c0.set (.slice A xs.length c)) (by omega)
  have e1 := d1.set (.int .i64 z)
  have eS := Kd.R_set (Kd.R_set hS c0 (by decide) 0 (.slice A xs.length c)) d1 (by decide) 0 (.int .i64 z)
  have el := set_heap (u := .int .i64 z) d1 (set_heap (u := .slice A xs.length c) c0 hl rfl) rfl
  have ed := set_heap (u := .int .i64 z) d1 (set_heap (u := .slice A xs.length c) c0 hd rfl) rfl
  have eB := (hB.setCell (p := ⟨w.heap.size, 0, none⟩) (Nat.le_refl _) (.slice A xs.length c)).setCell (p := ⟨w.heap.size + 1, 0, none⟩) (Nat.le_succ _) (.int .i64 z)
  exact ⟨el, ⟨A, c, boxed_put e0 _ el rfl, R_put eS _ el rfl⟩, boxed_put e1 _ el rfl, below_put eB _ (by omega), put_same _ el, put_other _ (by omega) ed⟩
theorem rd_results {tmps : Array Value} {W : World} {bl be : Nat} {A : Option Addr} {n c : Nat} {z : Int} (h2 : tmps[2]? = some (.pointer (some ⟨bl, 0, none⟩))) (h3 : tmps[3]? = some (.pointer (some ⟨be, 0, none⟩)))
    (hl : Boxed W bl 22 (.slice A n c)) (hf : Boxed W be 25 (.int .i64 z)) : (results Try.f21 tmps).run Try.prog W = .ok (.tuple #[.slice A n c, .int .i64 z]) W := by
  have y1 := hl.cell
  have y2 := hf.cell
  simp [results, Try.results21, go_sem, h2, h3, y1, y2]

set_option maxHeartbeats 4000000 in
set_option maxRecDepth 100000 in
theorem route_Decode.calls (A0 : Option Addr) (c0 : Nat) (l0 : List Int) (r1 : List RtE) (r2 : Int) (w : World) (hr0 : Kd.C (Kd.int .u8) w A0 l0.length l0) (hc0 : l0.length ≤ c0) (h : route_Decode.f l0 = some (r1, r2)) :
    Calls Try.prog 21 #[.slice A0 l0.length c0] w fun e w' => ∃ v0_ : Value, e = .returned (.tuple #[v0_, .int .i64 r2]) ∧ Kd.R k32 32 w' w.heap.size (fun _ => True) v0_ r1 ∧ Below w.heap.size w w' := by
  unfold route_Decode.f at h
  split at h
  case isFalse => cases h
  rename_i hcond
  obtain ⟨hbytes, hlen⟩ := hcond
  have HRES : Hid (rdR l0 = (r1, r2)) := Option.some.inj h
  clear h
  have HC := Lib.hid hr0
  have HBY := Lib.hid hbytes
  clear hr0 hbytes
  by_cases hl : 255 < l0.length
  · have e : rdR l0 = ([], 2) := by unfold rdR; rw [if_pos hl]
    obtain ⟨rfl, rfl⟩ := Prod.mk.inj (e.symm.trans HRES.out)
    clear e HRES
    have p1 : ((l0.length : Int) > 255) = True := eq_true (by omega)
    go_enter Try.func21, Try.ntmps21
    go_wp2_with fail
    refine bodyPost_ret (v := .tuple #[.slice none 0 0, .int .i64 2]) (by simp [results, Try.results21, go_sem]) rfl ⟨_, rfl, Kd.R_nil _ _ _ _ _, below_alloc (below_alloc (Below.refl _ _) _) _⟩
  · have p1 : ((l0.length : Int) > 255) = False := eq_false (by omega)
    have p2 : (255 < l0.length) = False := eq_false hl
    refine (callsIn_wide (n := 3)).1 (callsIn_of_wp_marks Try.func21 rfl trivial ?_ rfl)
    simp only [Try.ntmps21, List.size_toArray, List.length_cons, List.length_nil, Nat.reduceAdd, Nat.reduceSub, Array.replicate_succ, Array.replicate_zero, List.push_toArray, List.append_toArray, List.nil_append, List.cons_append]
    gi_wp2_with (refine ⟨trivial, ?_⟩; gi_at_call 32; refine callsIn_wide.2 ((routes_calls _ _ _ _).mono ?_); rintro e w' ⟨rfl, rfl⟩)
    obtain ⟨W0, hW0⟩ : ∃ W0, ((((w.alloc (Obj.cells #[Value.slice none 0 0] 22)).alloc (Obj.cells #[Value.int IntKind.i64 0] 25)).alloc (Obj.cells #[Value.slice none 0 0] 22)).alloc (Obj.cells #[Value.slice A0 l0.length c0] 24)) = W0 := ⟨_, rfl⟩
    have hsz : W0.heap.size = w.heap.size + 4 := by rw [← hW0]; simp
    have HSZ := Lib.hid hsz
    clear hsz
    have b0 : Boxed W0 w.heap.size 22 (.slice none 0 0) := by rw [← hW0]; exact (((Boxed.new _ _ _).alloc _).alloc _).alloc _
    have b1 : Boxed W0 (w.heap.size + 1) 25 (.int .i64 0) := by
      rw [← hW0]
      have := ((Boxed.new (w.alloc (Obj.cells #[Value.slice none 0 0] 22)) 25 (.int .i64 0)).alloc (Obj.cells #[Value.slice none 0 0] 22)).alloc (Obj.cells #[Value.slice A0 l0.length c0] 24)
      rwa [World.size_alloc] at this
    have bo : Boxed W0 (w.heap.size + 2) 22 (.slice none 0 0) := by
      rw [← hW0]
      have := (Boxed.new ((w.alloc (Obj.cells #[Value.slice none 0 0] 22)).alloc (Obj.cells #[Value.int IntKind.i64 0] 25)) 22 (.slice none 0 0)).alloc (Obj.cells #[Value.slice A0 l0.length c0] 24)
      rwa [World.size_alloc, World.size_alloc] at this
    have bB : Boxed W0 (w.heap.size + 1 + 1 + 1) 24 (.slice A0 l0.length c0) := by
      rw [← hW0]
      have := Boxed.new (((w.alloc (Obj.cells #[Value.slice none 0 0] 22)).alloc (Obj.cells #[Value.int IntKind.i64 0] 25)).alloc (Obj.cells #[Value.slice none 0 0] 22)) 24 (.slice A0 l0.length c0)
      rwa [World.size_alloc, World.size_alloc, World.size_alloc] at this
    have hB0 : Below w.heap.size w W0 := by rw [← hW0]; exact below_alloc (below_alloc (below_alloc (below_alloc (Below.refl _ _) _) _) _) _
    rw [hW0]
    clear hW0
    have hgs := fun r => rfStart_below W0 r
    refine rf_wide (gf := 34) (lb := #[.pointer (some ⟨w.heap.size + 1 + 1 + 1, 0, none⟩)]) rfl (fun args w => enters_ Try.func34 (by kernel_rfl) rfl args w) ?_
    intro fn r hr
    have HRR := Lib.hid hr
    clear hr
    refine (routes1_calls l0 w HBY.out hlen 3 (W0.heap.size + 1) (w.heap.size + 1 + 1 + 1) (RdJ w W0.heap.size (r .ready none)) (RdE w W0.heap.size (r .done (some .ret)) (r1, r2)) (by omega) ?hJb ?hJg ?hJs ?hY1 ?hY2 _ ?h0 A0 c0 HC.out hc0 (boxed_below bB (hgs _))).mono ?post
    case hJb => exact fun pre W h => h.below
    case hJg => exact fun pre W W' h hg => h.grow hg
    case hJs => exact fun pre W v u h hq => h.set u hq (by omega)
    case h0 => exact ⟨boxed_below b0 (hgs _), boxed_below b1 (hgs _), ⟨none, 0, boxed_below bo (hgs _), Kd.R_nil _ _ _ _ _⟩, below_then hB0 hB0.size (hgs _), rfStart_loop _ _, rfStart_def _ _⟩
    case hY1 =>
      intro pre Wb x bv hJ2 hpl hB
      have ga := below_alloc (Below.refl Wb.heap.size Wb) (.cells #[.int .u32 x.f0, .int .i64 x.f1, .int .u32 x.f2] 32)
      have hJ3 := hJ2.grow ga
      have hB3 := boxed_below hB ga
      have hX3 := blk_new Wb (.cells #[.int .u32 x.f0, .int .i64 x.f1, .int .u32 x.f2] 32)
      refine yieldAt_mono (rf_roundA (n := 3) (W1 := Wb.alloc (.cells #[.int .u32 x.f0, .int .i64 x.f1, .int .u32 x.f2] 32)) (fun b _ W' => b = true ∧ RdJ w W0.heap.size (r .ready none) (pre ++ [x]) W' ∧ Boxed W' (w.heap.size + 1 + 1 + 1) 24 bv) HRR.out hJ2.loop hJ3.loop rfl
        { tmps := #[.slice A0 l0.length c0, undef, .pointer (some ⟨w.heap.size, 0, none⟩), .pointer (some ⟨w.heap.size + 1, 0, none⟩), .pointer (some ⟨w.heap.size + 1 + 1, 0, none⟩), .pointer (some ⟨Wb.heap.size, 0, none⟩), .bool true, .slice A0 l0.length c0, .int .i64 l0.length, .bool false, .slice A0 l0.length c0, .func (.func 34) #[] #[.pointer (some ⟨w.heap.size + 1 + 1 + 1, 0, none⟩)], .agg #[.int .u32 x.f0, .int .i64 x.f1, .int .u32 x.f2], .bool true, undef, undef, undef, undef, undef, undef, undef], defers := [] } ?asg ?bdy) ?_
      case asg =>
        intro K hK
        gi_wp2
        exact hK
      case bdy =>
        obtain ⟨Av, cv, bo3, hs3⟩ := hJ3.row
        obtain ⟨bx, hbx⟩ : ∃ b, Wb.heap.size = b := ⟨_, rfl⟩
        obtain ⟨W1, hW1⟩ : ∃ W, Wb.alloc (.cells #[.int .u32 x.f0, .int .i64 x.f1, .int .u32 x.f2] 32) = W := ⟨_, rfl⟩
        rw [hbx] at hX3 ⊢
        rw [hW1] at hX3 hJ3 bo3 hs3 hB3 ⊢
        clear hW1 hbx ga hJ2 hB
        obtain ⟨Wc, hWc⟩ : ∃ Wc, W1.putObj (W0.heap.size + 1) (.loop (r .busy none)) = Wc := ⟨_, rfl⟩
        have c0' := boxed_put hJ3.b0 (.loop (r .busy none)) hJ3.loop rfl
        have c1 := boxed_put hJ3.b1 (.loop (r .busy none)) hJ3.loop rfl
        have co := boxed_put bo3 (.loop (r .busy none)) hJ3.loop rfl
        have cb := boxed_put hB3 (.loop (r .busy none)) hJ3.loop rfl
        have cS := R_put hs3 (.loop (r .busy none)) hJ3.loop rfl
        have cB := below_put hJ3.below (.loop (r .busy none)) (l := W0.heap.size + 1) (by have := HSZ.out; omega)
        have cl := put_same (.loop (r .busy none)) hJ3.loop
        have cd' := put_other (.loop (r .busy none)) (k := W0.heap.size) (l := W0.heap.size + 1) (by omega) hJ3.coll
        have cX := put_other (.loop (r .busy none)) (k := bx) (l := W0.heap.size + 1) (by rintro rfl; have h := hJ3.loop; rw [hX3] at h; cases h) hX3
        rw [hWc] at c0' c1 co cb cS cB cl cd' cX ⊢
        clear hWc hJ3 bo3 hB3 hs3 hX3
        have x1 : Wc.cell? ⟨w.heap.size + 1 + 1, 0, none⟩ = _ := co.cell
        have x2 := (blk_cell cX 0).trans rfl
        have x3 := (blk_cell cX 1).trans rfl
        have x4 := (blk_cell cX 2).trans rfl
        gi_wp2_with (gi_at_builtin; refine wpListIn_of_one (by intro c hc; cases hc) (fun _ _ h => h) ?_; refine Kd.R_append k32 (w0 := w) w.heap.size rfl (.tmp 16) (.tmp 18) 22 32 (.agg #[.int .u32 0, .int .i64 0, .int .u32 0]) 24 rfl Try.underlying22 rinfo rfl (by decide) (by decide) (.slice Av pre.length cv) pre x [.int .u32 x.f0, .int .i64 x.f1, .int .u32 x.f2] (fun _ => True) (fun _ => False) rfl rfl ?aP ?aK ?aF ?aO ?aB ?aS ?aL ?_; (case aP => exact k32_mkM _ _ _ x); (case aK => exact fun _ h => h.elim); (case aF => exact fun _ _ => trivial); (case aO => exact cS); (case aB => exact cB); (case aS => exact cB.size); (case aL => omega); intro v1 w1 ho hb hg1 hat; obtain ⟨A1, c1', rfl⟩ := Kd.R_slice ho; have d0 := c0'.kept hg1 (Kd.R_ne cS c0' (by decide)); have d1 := c1.kept hg1 (Kd.R_ne cS c1 (by decide)); have do1 := co.kept hg1 (Kd.R_ne cS co (by decide)); have db1 := cb.kept hg1 (Kd.R_ne cS cb (by decide)); have dl1 := grown_heapR cS hg1 cl rfl; have dd1 := grown_heapR cS hg1 cd' rfl; clear c0' c1 co cb cl cd' cS cB cX x1 x2 x3 x4 hat hg1; have x1 : w1.cell? ⟨w.heap.size + 1 + 1, 0, none⟩ = _ := do1.cell; have x2 : w1.frozen? ⟨w.heap.size + 1 + 1, 0, none⟩ = _ := do1.frozen; refine wpList_back ?_)
        rw [show (pre ++ [x]).length = pre.length + 1 from by simp] at ho
        have e0 := boxed_set_other (B' := w.heap.size + 2) (.slice A1 (pre.length + 1) c1') d0 (by omega)
        have e1 := boxed_set_other (B' := w.heap.size + 2) (.slice A1 (pre.length + 1) c1') d1 (by omega)
        have eo := do1.set (.slice A1 (pre.length + 1) c1')
        have eb := boxed_set_other (B' := w.heap.size + 2) (.slice A1 (pre.length + 1) c1') db1 (by omega)
        have eS := Kd.R_set ho do1 (by decide) 0 (.slice A1 (pre.length + 1) c1')
        have el := set_heap (u := .slice A1 (pre.length + 1) c1') do1 dl1 rfl
        have ed := set_heap (u := .slice A1 (pre.length + 1) c1') do1 dd1 rfl
        have eB := hb.setCell (p := ⟨w.heap.size + 2, 0, none⟩) (show w.heap.size ≤ w.heap.size + 2 by omega) (.slice A1 (pre.length + 1) c1')
        refine ⟨el, rfl, ⟨boxed_put e0 _ el rfl, boxed_put e1 _ el rfl, ⟨A1, c1', ?_, ?_⟩, below_put eB _ (by have := HSZ.out; omega), put_same _ el, put_other _ (by omega) ed⟩, boxed_put eb _ el rfl⟩
        · rw [show (pre ++ [x]).length = pre.length + 1 from by simp]; exact boxed_put eo _ el rfl
        · rw [show (pre ++ [x]).length = pre.length + 1 from by simp]; exact R_put eS _ el rfl
      rintro e W' ⟨b, j, rfl, ⟨rfl, hJ4, hB4⟩, _⟩
      exact ⟨rfl, hJ4, hB4⟩
    case hY2 =>
      intro pre Wb x hJ hgo
      have e : rdR l0 = ([], 2) := by unfold rdR; rw [if_neg hl, hgo]
      have ga := below_alloc (Below.refl Wb.heap.size Wb) (.cells #[.int .u32 x.f0, .int .i64 x.f1, .int .u32 x.f2] 32)
      have hJ3 := hJ.grow ga
      have hX3 := blk_new Wb (.cells #[.int .u32 x.f0, .int .i64 x.f1, .int .u32 x.f2] 32)
      obtain ⟨rfl, rfl⟩ := Prod.mk.inj (e.symm.trans HRES.out)
      refine yieldAt_mono (rf_roundA (n := 3) (W1 := Wb.alloc (.cells #[.int .u32 x.f0, .int .i64 x.f1, .int .u32 x.f2] 32)) (fun b _ W' => b = false ∧ RdE w W0.heap.size (r .done (some .ret)) ([], 2) W') HRR.out hJ.loop hJ3.loop rfl
        { tmps := #[.slice A0 l0.length c0, undef, .pointer (some ⟨w.heap.size, 0, none⟩), .pointer (some ⟨w.heap.size + 1, 0, none⟩), .pointer (some ⟨w.heap.size + 1 + 1, 0, none⟩), .pointer (some ⟨Wb.heap.size, 0, none⟩), .bool false, .slice A0 l0.length c0, .int .i64 l0.length, .bool false, .slice A0 l0.length c0, .func (.func 34) #[] #[.pointer (some ⟨w.heap.size + 1 + 1 + 1, 0, none⟩)], .agg #[.int .u32 x.f0, .int .i64 x.f1, .int .u32 x.f2], .bool false, undef, undef, undef, undef, undef, undef, undef], defers := [] } ?asg2 ?bdy2) ?_
      case asg2 =>
        intro K hK
        gi_wp2
        exact hK
      case bdy2 =>
        obtain ⟨bx, hbx⟩ : ∃ b, Wb.heap.size = b := ⟨_, rfl⟩
        obtain ⟨W1, hW1⟩ : ∃ W, Wb.alloc (.cells #[.int .u32 x.f0, .int .i64 x.f1, .int .u32 x.f2] 32) = W := ⟨_, rfl⟩
        rw [hbx] at hX3 ⊢
        rw [hW1] at hX3 hJ3 ⊢
        clear hW1 hbx ga hJ
        obtain ⟨Wc, hWc⟩ : ∃ Wc, W1.putObj (W0.heap.size + 1) (.loop (r .busy none)) = Wc := ⟨_, rfl⟩
        have c0' := boxed_put hJ3.b0 (.loop (r .busy none)) hJ3.loop rfl
        have c1 := boxed_put hJ3.b1 (.loop (r .busy none)) hJ3.loop rfl
        have cB := below_put hJ3.below (.loop (r .busy none)) (l := W0.heap.size + 1) (by have := HSZ.out; omega)
        have cl := put_same (.loop (r .busy none)) hJ3.loop
        have cd' := put_other (.loop (r .busy none)) (k := W0.heap.size) (l := W0.heap.size + 1) (by omega) hJ3.coll
        rw [hWc] at c0' c1 cB cl cd' ⊢
        clear hWc hJ3 hX3
        have x4 := c0'.cell
        have x5 := c0'.frozen
        have x6 : ∀ u, (Wc.setCell ⟨w.heap.size, 0, none⟩ u).cell? ⟨w.heap.size + 1, 0, none⟩ = some (.int .i64 0) := fun u => (boxed_set_other (B' := w.heap.size) u c1 (by omega)).cell
        have x7 : ∀ u, (Wc.setCell ⟨w.heap.size, 0, none⟩ u).frozen? ⟨w.heap.size + 1, 0, none⟩ = false := fun u => (boxed_set_other (B' := w.heap.size) u c1 (by omega)).frozen
        have hE := rd_end (r := r) (D := W0.heap.size) (z := 2) (xs := []) c0' c1 (Kd.R_nil k32 32 Wc w.heap.size (fun _ => True)) cB cl cd' (by have := HSZ.out; omega)
        have HE := Lib.hid hE
        clear hE
        gi_wp2_with fail
        exact ⟨HE.out.1, rfl, HE.out.2⟩
      rintro e W' ⟨b, j, rfl, ⟨rfl, hE⟩, _⟩
      exact ⟨rfl, hE⟩
    case post =>
      rintro e W ⟨⟨v, rfl⟩, ⟨pre, hgo, hJ⟩ | ⟨hgo, hE⟩⟩
      · refine ⟨⟨v, rfl⟩, .inl ⟨hJ.loop, ?_⟩⟩
        have e : rdR l0 = (pre, 0) := by unfold rdR; rw [if_neg hl, hgo]
        obtain ⟨rfl, rfl⟩ := Prod.mk.inj (e.symm.trans HRES.out)
        clear e hgo
        obtain ⟨Av, cv, bo3, hs3⟩ := hJ.row
        have c0' := boxed_put hJ.b0 (.loop (r .exhausted none)) hJ.loop rfl
        have c1 := boxed_put hJ.b1 (.loop (r .exhausted none)) hJ.loop rfl
        have co := boxed_put bo3 (.loop (r .exhausted none)) hJ.loop rfl
        have cS := R_put hs3 (.loop (r .exhausted none)) hJ.loop rfl
        have cB := below_put hJ.below (.loop (r .exhausted none)) (l := W0.heap.size + 1) (by have := HSZ.out; omega)
        have cd' := put_other (.loop (r .exhausted none)) (k := W0.heap.size) (l := W0.heap.size + 1) (by omega) hJ.coll
        obtain ⟨Wc, hWc⟩ : ∃ Wc, W.putObj (W0.heap.size + 1) (.loop (r .exhausted none)) = Wc := ⟨_, rfl⟩
        rw [hWc] at c0' c1 co cS cB cd' ⊢
        clear hWc hJ bo3 hs3
        have x1 : Wc.cell? ⟨w.heap.size + 1 + 1, 0, none⟩ = _ := co.cell
        have x4 := c0'.cell
        have x5 := c0'.frozen
        have x6 : ∀ u, (Wc.setCell ⟨w.heap.size, 0, none⟩ u).cell? ⟨w.heap.size + 1, 0, none⟩ = some (.int .i64 0) := fun u => (boxed_set_other (B' := w.heap.size) u c1 (by omega)).cell
        have x7 : ∀ u, (Wc.setCell ⟨w.heap.size, 0, none⟩ u).frozen? ⟨w.heap.size + 1, 0, none⟩ = false := fun u => (boxed_set_other (B' := w.heap.size) u c1 (by omega)).frozen
        have d1 := boxed_set_other (B' := w.heap.size) (.slice Av pre.length cv) c1 (by omega)
        have e0 := boxed_set_other (B' := w.heap.size + 1) (.int .i64 0) (c0'.set (.slice Av pre.length cv)) (by omega)
        have e1 := d1.set (.int .i64 0)
        have eS := Kd.R_set (Kd.R_set cS c0' (by decide) 0 (.slice Av pre.length cv)) d1 (by decide) 0 (.int .i64 0)
        have ed := set_heap (u := .int .i64 0) d1 (set_heap (u := .slice Av pre.length cv) c0' cd' rfl) rfl
        have eB := (cB.setCell (p := ⟨w.heap.size, 0, none⟩) (Nat.le_refl _) (.slice Av pre.length cv)).setCell (p := ⟨w.heap.size + 1, 0, none⟩) (Nat.le_succ _) (.int .i64 0)
        have HED := Lib.hid ed
        have HES := Lib.hid eS
        have HE0 := Lib.hid e0
        have HE1 := Lib.hid e1
        have HEB := Lib.hid eB
        clear ed eS e0 e1 eB d1 c0' c1 co cS cB cd'
        gi_wp2_with fail
        refine ⟨by simp, .inl ⟨_, _, rfl, run_takeDeferred HED.out, ?_⟩⟩
        exact ⟨_, rd_results rfl rfl (boxed_put HE0.out _ HED.out rfl) (boxed_put HE1.out _ HED.out rfl), _, rfl, R_put HES.out _ HED.out rfl, below_put HEB.out _ (by have := HSZ.out; omega)⟩
      · refine ⟨⟨v, rfl⟩, .inr ⟨.ret, hE.loop, ?_⟩⟩
        obtain ⟨Av, cv, bo3, hs3⟩ := hE.row
        have c0' := boxed_put bo3 (.loop (r .exhausted (some .ret))) hE.loop rfl
        have c1 := boxed_put hE.b1 (.loop (r .exhausted (some .ret))) hE.loop rfl
        have cS := R_put hs3 (.loop (r .exhausted (some .ret))) hE.loop rfl
        have cB := below_put hE.below (.loop (r .exhausted (some .ret))) (l := W0.heap.size + 1) (by have := HSZ.out; omega)
        have cd' := put_other (.loop (r .exhausted (some .ret))) (k := W0.heap.size) (l := W0.heap.size + 1) (by omega) hE.coll
        obtain ⟨Wc, hWc⟩ : ∃ Wc, W.putObj (W0.heap.size + 1) (.loop (r .exhausted (some .ret))) = Wc := ⟨_, rfl⟩
        rw [hWc] at c0' c1 cS cB cd' ⊢
        clear hWc hE bo3 hs3
        gi_wp2
        refine ⟨by simp, .inl ⟨_, _, rfl, run_takeDeferred cd', ?_⟩⟩
        exact ⟨_, rd_results rfl rfl (boxed_put c0' _ cd' rfl) (boxed_put c1 _ cd' rfl), _, rfl, R_put cS _ cd' rfl, below_put cB _ (by have := HSZ.out; omega)⟩
end Go.Proofs.Yteniakelhalojaa
