/-
  option.Decode in the print's form. Condition: bytes, fewer than 2^40.
-/
import Derived.Test.YtcefkkcmpdlnjaaDoorHParts
import Derived.Test.YtcefkkcmpdlnjaaDoorHTrim
namespace Go.Proofs.YtcefkkcmpdlnjaaDoor
open Go.RowKit Go.Proofs.YtcefkkcmpdlnjaaDoor.Pr Go.Proofs.YtcefkkcmpdlnjaaDoorW.PrintWords Go.Proofs.YtcefkkcmpdlnjaaDoorW.PrintLast Go.Proofs.YtcefkkcmpdlnjaaDoorW.PrintMore
attribute [local go_sem] max2_int min2_int max_two min_two max_three min_three max_four min_four Oper.semAt_some
set_option linter.unusedVariables false
set_option linter.unusedSimpArgs false

theorem parts_calls (A0 : Option Addr) (n c0 : Nat) (w : World) :
    Calls Tryd.prog 11 #[.slice A0 n c0] w fun e w' => e = .returned (.func (.func 16) #[] #[.pointer (some ⟨w.heap.size, 0, none⟩)]) ∧ w' = w.alloc (.cells #[.slice A0 n c0] 22) := by
  go_enter Tryd.func11, Tryd.ntmps11
  go_wp2
  go_ret
  exact ⟨rfl, rfl⟩

/-- A round whose assignment turns the world. -/
theorem rf_roundA {P : Program} {n l : Nat} {W W1 : World} {args : Array Value} (R : Bool → Option Code → World → Prop) {fn : FuncId} {tmps : Array Value} {ps : Array Tmp} {assign body : Code} {dk : Nat} {r : LoopState → Option Code → Loop}
    (hr : r = rfRec fn tmps ps assign body dk) (hl : W.heap[l]? = some (.loop (r .ready none))) (hl1 : W1.heap[l]? = some (.loop (r .ready none))) (hs : args.size = ps.size) (a₁ : Act)
    (hassign : ∀ K : Act → World → Prop, K a₁ W1 → assign.wpIn (Fence.wide.inRound l) n P (Exit.then K (fun _ _ _ => False)) { tmps := (ps.zip args).foldl (fun t (p, v) => t.setIfInBounds p v) tmps, defers := [] } W)
    (hbody : body.wpIn (Fence.wide.inRound l) n P (rfPost r l R) a₁ (W1.putObj l (.loop (r .busy none)))) :
    YieldAt Fence.wide n P l args W fun e W' => ∃ b jump, e = .returned (.bool b) ∧ R b jump W' ∧ (b = true → jump = none) := by
  subst hr
  have hy := run_yield (P := P) (args := args) hl (by simpa [rfRec] using hs)
  refine ⟨fn, _, assign, body, hy, roundIn_of_wpIn trivial (hassign _ ⟨_, run_beginRound hl1 rfl, ?_⟩)⟩
  refine wpIn_mono hbody ?_
  intro e a W3 hp
  cases e with
  | normal =>
    obtain ⟨hb, hr⟩ := hp
    exact ⟨_, _, run_endRound (P := P) none hb, true, none, rfl, hr, fun _ => rfl⟩
  | ret =>
    obtain ⟨hb, hr⟩ := hp
    exact ⟨_, _, run_endRound (P := P) (some .ret) hb, false, some .ret, rfl, hr, fun h => by cases h⟩
  | exit id =>
    obtain ⟨hb, hr⟩ := hp
    exact ⟨_, _, run_endRound (P := P) (some (.exit id)) hb, false, some (.exit id), rfl, hr, fun h => by cases h⟩
  | goto t => exact hp.elim
  | panic ch => exact hp.elim
  | outgrown => exact hp.elim

theorem pinfo : (Tryd.prog.info? 35).map (fun i => (i.zero, i.size, i.bytes)) = some (some (.agg #[.int .i64 0, .slice none 0 0]), 2, 32) := by kernel_rfl
/-! ### what Decode hands back -/
def odR (l : List Int) : List OptP × Int := if 1024 < l.length then ([], 2) else match pGo l [] with | (pre, some r) => if ∀ x ∈ r, x = 0 then (pre, 0) else ([], 2) | (_, none) => ([], 2)
def option_Decode.f (l0 : List Int) : Option (List OptP × Int) := if (∀ x ∈ l0, 0 ≤ x ∧ x ≤ 255) ∧ l0.length < 1099511627776 then some (odR l0) else none

/-- Between two rounds. -/
structure DecJ (w : World) (D : Nat) (r : Loop) (pre : List OptP) (W : World) : Prop where
  b0 : Boxed W w.heap.size 24 (.slice none 0 0)
  b1 : Boxed W (w.heap.size + 1) 25 (.int .i64 0)
  row : ∃ A c, Boxed W (w.heap.size + 2) 24 (.slice A pre.length c) ∧ Kd.S k35 35 W w.heap.size (fun _ => True) (.slice A pre.length c) pre
  below : Below w.heap.size w W
  loop : W.heap[D + 1]? = some (.loop r)
  coll : W.heap[D]? = some (.deferred (some []))
/-- Behind the last. -/
structure DecE (w : World) (D : Nat) (r : Loop) (res : List OptP × Int) (W : World) : Prop where
  row : ∃ A c, Boxed W w.heap.size 24 (.slice A res.1.length c) ∧ Kd.S k35 35 W w.heap.size (fun _ => True) (.slice A res.1.length c) res.1
  b1 : Boxed W (w.heap.size + 1) 25 (.int .i64 res.2)
  below : Below w.heap.size w W
  loop : W.heap[D + 1]? = some (.loop r)
  coll : W.heap[D]? = some (.deferred (some []))
theorem DecJ.grow {w W W' : World} {D : Nat} {r : Loop} {pre : List OptP} (h : DecJ w D r pre W) (hg : Below W.heap.size W W') : DecJ w D r pre W' := by
  obtain ⟨A, c, bo, hs⟩ := h.row
  exact ⟨boxed_below h.b0 hg, boxed_below h.b1 hg, ⟨A, c, boxed_below bo hg, Kd.S_below hs hg⟩, below_then h.below h.below.size hg, below_heap hg h.loop, below_heap hg h.coll⟩
theorem DecJ.one {w W W' : World} {D : Nat} {r : Loop} {pre : List OptP} (h : DecJ w D r pre W) {q : Nat} {v : Value} (hq : Boxed W q 22 v) (hg : OneBut W W' q) (hq3 : w.heap.size + 2 < q) (hqD : q < D) : DecJ w D r pre W' := by
  obtain ⟨A, c, bo, hs⟩ := h.row
  have hm : ∀ k, k < W.heap.size → k ≠ q → W'.heap[k]? = W.heap[k]? := hg.block
  refine ⟨(hm _ h.b0.lt (by omega)).trans h.b0, (hm _ h.b1.lt (by omega)).trans h.b1, ⟨A, c, (hm _ bo.lt (by omega)).trans bo, ?_⟩, ?_, (hm _ (lt_of_heap h.loop) (by omega)).trans h.loop, (hm _ (lt_of_heap h.coll) (by omega)).trans h.coll⟩
  · exact Kd.S_mono (Kd.S_step (Kd.S_types hs hq (by decide)) (fun k hk hlt => hm k hlt hk.2)) (fun _ _ => trivial)
  · refine h.below.trans ⟨hg.os, hg.tape, hg.output, hg.size, fun k hk => hm k ?_ (by omega)⟩
    have := h.below.size; omega

/-- The answer laid, the round left. -/
theorem dec_end {w W : World} {D : Nat} {r : LoopState → Option Code → Loop} {v0 z0 : Value} {A : Option Addr} {c : Nat} {z : Int} {xs : List OptP} (c0 : Boxed W w.heap.size 24 v0) (c1 : Boxed W (w.heap.size + 1) 25 z0)
    (hS : Kd.S k35 35 W w.heap.size (fun _ => True) (.slice A xs.length c) xs) (hB : Below w.heap.size w W) (hl : W.heap[D + 1]? = some (.loop (r .busy none))) (hd : W.heap[D]? = some (.deferred (some []))) (hD : w.heap.size + 4 ≤ D) :
    ((W.setCell ⟨w.heap.size, 0, none⟩ (.slice A xs.length c)).setCell ⟨w.heap.size + 1, 0, none⟩ (.int .i64 z)).heap[D + 1]? = some (.loop (r .busy none)) ∧
      DecE w D (r .done (some .ret)) (xs, z) (((W.setCell ⟨w.heap.size, 0, none⟩ (.slice A xs.length c)).setCell ⟨w.heap.size + 1, 0, none⟩ (.int .i64 z)).putObj (D + 1) (.loop (r .done (some .ret)))) := by
  have d1 := boxed_set_other (B' := w.heap.size) (.slice A xs.length c) c1 (by omega)
  have e0 := boxed_set_other (B' := w.heap.size + 1) (.int .i64 z) (c0.set (.slice A xs.length c)) (by omega)
  have e1 := d1.set (.int .i64 z)
  have eS := Kd.S_set (Kd.S_set hS c0 (by decide) 0 (.slice A xs.length c)) d1 (by decide) 0 (.int .i64 z)
  have el := set_heap (u := .int .i64 z) d1 (set_heap (u := .slice A xs.length c) c0 hl rfl) rfl
  have ed := set_heap (u := .int .i64 z) d1 (set_heap (u := .slice A xs.length c) c0 hd rfl) rfl
  have eB := (hB.setCell (p := ⟨w.heap.size, 0, none⟩) (Nat.le_refl _) (.slice A xs.length c)).setCell (p := ⟨w.heap.size + 1, 0, none⟩) (Nat.le_succ _) (.int .i64 z)
  exact ⟨el, ⟨A, c, boxed_put e0 _ el rfl, S_put eS _ el rfl⟩, boxed_put e1 _ el rfl, below_put eB _ (by omega), put_same _ el, put_other _ (by omega) ed⟩
theorem dec_results {tmps : Array Value} {W : World} {bl be : Nat} {A : Option Addr} {n c : Nat} {z : Int} (h2 : tmps[2]? = some (.pointer (some ⟨bl, 0, none⟩))) (h3 : tmps[3]? = some (.pointer (some ⟨be, 0, none⟩)))
    (hl : Boxed W bl 24 (.slice A n c)) (hf : Boxed W be 25 (.int .i64 z)) : (results Tryd.f6 tmps).run Tryd.prog W = .ok (.tuple #[.slice A n c, .int .i64 z]) W := by
  have y1 := hl.cell
  have y2 := hf.cell
  simp [results, Tryd.results6, go_sem, h2, h3, y1, y2]

set_option maxHeartbeats 4000000 in
set_option maxRecDepth 100000 in
theorem option_Decode.calls (A0 : Option Addr) (c0 : Nat) (l0 : List Int) (r1 : List OptP) (r2 : Int) (w : World) (hr0 : Kd.C (Kd.int .u8) w A0 l0.length l0) (hc0 : l0.length ≤ c0) (h : option_Decode.f l0 = some (r1, r2)) :
    Calls Tryd.prog 6 #[.slice A0 l0.length c0] w fun e w' => ∃ v0_ : Value, e = .returned (.tuple #[v0_, .int .i64 r2]) ∧ Kd.S k35 35 w' w.heap.size (fun _ => True) v0_ r1 ∧ Below w.heap.size w w' := by
  unfold option_Decode.f at h
  split at h
  case isFalse => cases h
  rename_i hcond
  obtain ⟨hbytes, hlen⟩ := hcond
  have HRES : Hid (odR l0 = (r1, r2)) := Option.some.inj h
  clear h
  have HC := Lib.hid hr0
  have HBY := Lib.hid hbytes
  clear hr0 hbytes
  by_cases hl : 1024 < l0.length
  · have e : odR l0 = ([], 2) := by unfold odR; rw [if_pos hl]
    obtain ⟨rfl, rfl⟩ := Prod.mk.inj (e.symm.trans HRES.out)
    clear e HRES
    have p1 : ((l0.length : Int) > 1024) = True := eq_true (by omega)
    go_enter Tryd.func6, Tryd.ntmps6
    go_wp2_with fail
    refine bodyPost_ret (v := .tuple #[.slice none 0 0, .int .i64 2]) (by simp [results, Tryd.results6, go_sem]) rfl ⟨_, rfl, Kd.S_nil _ _ _ _ _, below_alloc (below_alloc (Below.refl _ _) _) _⟩
  · have p1 : ((l0.length : Int) > 1024) = False := eq_false (by omega)
    have p2 : (1024 < l0.length) = False := eq_false hl
    refine (callsIn_wide (n := 3)).1 (callsIn_of_wp_marks Tryd.func6 rfl trivial ?_ rfl)
    simp only [Tryd.ntmps6, List.size_toArray, List.length_cons, List.length_nil, Nat.reduceAdd, Nat.reduceSub, Array.replicate_succ, Array.replicate_zero, List.push_toArray, List.append_toArray, List.nil_append, List.cons_append]
    gi_wp2_with (refine ⟨trivial, ?_⟩; gi_at_call 11; refine callsIn_wide.2 ((parts_calls _ _ _ _).mono ?_); rintro e w' ⟨rfl, rfl⟩)
    obtain ⟨W0, hW0⟩ : ∃ W0, ((((w.alloc (Obj.cells #[Value.slice none 0 0] 24)).alloc (Obj.cells #[Value.int IntKind.i64 0] 25)).alloc (Obj.cells #[Value.slice none 0 0] 24)).alloc (Obj.cells #[Value.slice A0 l0.length c0] 22)) = W0 := ⟨_, rfl⟩
    have hsz : W0.heap.size = w.heap.size + 4 := by rw [← hW0]; simp
    have HSZ := Lib.hid hsz
    clear hsz
    have b0 : Boxed W0 w.heap.size 24 (.slice none 0 0) := by rw [← hW0]; exact (((Boxed.new _ _ _).alloc _).alloc _).alloc _
    have b1 : Boxed W0 (w.heap.size + 1) 25 (.int .i64 0) := by
      rw [← hW0]
      have := ((Boxed.new (w.alloc (Obj.cells #[Value.slice none 0 0] 24)) 25 (.int .i64 0)).alloc (Obj.cells #[Value.slice none 0 0] 24)).alloc (Obj.cells #[Value.slice A0 l0.length c0] 22)
      rwa [World.size_alloc] at this
    have bo : Boxed W0 (w.heap.size + 2) 24 (.slice none 0 0) := by
      rw [← hW0]
      have := (Boxed.new ((w.alloc (Obj.cells #[Value.slice none 0 0] 24)).alloc (Obj.cells #[Value.int IntKind.i64 0] 25)) 24 (.slice none 0 0)).alloc (Obj.cells #[Value.slice A0 l0.length c0] 22)
      rwa [World.size_alloc, World.size_alloc] at this
    have bB : Boxed W0 (w.heap.size + 1 + 1 + 1) 22 (.slice A0 l0.length c0) := by
      rw [← hW0]
      have := Boxed.new (((w.alloc (Obj.cells #[Value.slice none 0 0] 24)).alloc (Obj.cells #[Value.int IntKind.i64 0] 25)).alloc (Obj.cells #[Value.slice none 0 0] 24)) 22 (.slice A0 l0.length c0)
      rwa [World.size_alloc, World.size_alloc, World.size_alloc] at this
    have hB0 : Below w.heap.size w W0 := by rw [← hW0]; exact below_alloc (below_alloc (below_alloc (below_alloc (Below.refl _ _) _) _) _) _
    rw [hW0]
    clear hW0
    have hgs := fun r => rfStart_below W0 r
    refine rf_wide (gf := 16) (lb := #[.pointer (some ⟨w.heap.size + 1 + 1 + 1, 0, none⟩)]) rfl (fun args w => enters_ Tryd.func16 (by kernel_rfl) rfl args w) ?_
    intro fn r hr
    have HRR := Lib.hid hr
    clear hr
    refine (parts1_calls l0 w HBY.out hlen 3 (W0.heap.size + 1) (w.heap.size + 1 + 1 + 1) (DecJ w W0.heap.size (r .ready none)) (DecE w W0.heap.size (r .done (some .ret)) (r1, r2)) (by omega) ?hJb ?hJg ?hJs ?hY1 ?hY2 ?hY3 _ ?h0 A0 c0 HC.out hc0 (boxed_below bB (hgs _))).mono ?post
    case hJb => exact fun pre W h => h.below
    case hJg => exact fun pre W W' h hg => h.grow hg
    case hJs => exact fun pre W v u h hq => h.one hq ((OneBut.of_below (Below.refl _ _) _).set u) (by omega) (by have := HSZ.out; omega)
    case h0 => exact ⟨boxed_below b0 (hgs _), boxed_below b1 (hgs _), ⟨none, 0, boxed_below bo (hgs _), Kd.S_nil _ _ _ _ _⟩, below_then hB0 hB0.size (hgs _), rfStart_loop _ _, rfStart_def _ _⟩
    case hY1 =>
      rintro pre Wa Wb x d Ad cd As ns cs bv hJ ⟨bv0, hq⟩ hO hpl hdl hR hx0 hx1 hB
      have hJ2 := hJ.one hq hO (by omega) (by have := HSZ.out; omega)
      obtain ⟨Av, cv, bo1, hs1⟩ := hJ.row
      have hsB : Kd.S k35 35 Wb w.heap.size (fun k => k < Wa.heap.size) (.slice Av pre.length cv) pre :=
        Kd.S_mono (Kd.S_step (Kd.S_types (Kd.S_bound hs1) hq (by decide)) (fun k hk hlt => hO.block k hlt hk.2)) (fun k hk => hk.1.2.2.1)
      have bo2 : Boxed Wb (w.heap.size + 2) 24 (.slice Av pre.length cv) := (hO.block _ bo1.lt (by omega)).trans bo1
      clear hJ bo1 hs1
      have ga := below_alloc (Below.refl Wb.heap.size Wb) (.cells #[.int .i64 x, .slice Ad d.length cd] 35)
      have hJ3 := hJ2.grow ga
      have hsC := Kd.S_below hsB ga
      have bo3 := boxed_below bo2 ga
      have hR3 := Kd.R_below hR ga
      have hB3 := boxed_below hB ga
      have hX3 := blk_new Wb (.cells #[.int .i64 x, .slice Ad d.length cd] 35)
      have hla := hO.size
      have hwa : w.heap.size ≤ Wa.heap.size := by have := hq.lt; omega
      refine yieldAt_mono (rf_roundA (n := 3) (W1 := Wb.alloc (.cells #[.int .i64 x, .slice Ad d.length cd] 35)) (fun b _ W' => b = true ∧ DecJ w W0.heap.size (r .ready none) (pre ++ [⟨x, d⟩]) W' ∧ Boxed W' (w.heap.size + 1 + 1 + 1) 22 bv) HRR.out hJ2.loop hJ3.loop rfl
        { tmps := #[.slice A0 l0.length c0, undef, .pointer (some ⟨w.heap.size, 0, none⟩), .pointer (some ⟨w.heap.size + 1, 0, none⟩), .pointer (some ⟨w.heap.size + 1 + 1, 0, none⟩), .pointer (some ⟨Wb.heap.size, 0, none⟩), .slice As ns cs, .slice A0 l0.length c0, .int .i64 l0.length, .bool false, .slice A0 l0.length c0, .func (.func 16) #[] #[.pointer (some ⟨w.heap.size + 1 + 1 + 1, 0, none⟩)], .agg #[.int .i64 x, .slice Ad d.length cd], .slice As ns cs, undef, undef, undef, undef, undef, undef, undef, undef, undef, undef, undef, undef, undef, undef, undef], defers := [] } ?asg ?bdy) ?_
      case asg =>
        intro K hK
        gi_wp2
        exact hK
      case bdy =>
        clear hJ2 hsB bo2 hR hB ga
        obtain ⟨bx, hbx⟩ : ∃ b, Wb.heap.size = b := ⟨_, rfl⟩
        obtain ⟨W1, hW1⟩ : ∃ W, Wb.alloc (.cells #[.int .i64 x, .slice Ad d.length cd] 35) = W := ⟨_, rfl⟩
        rw [hbx] at hX3 hla ⊢
        rw [hW1] at hX3 hJ3 hsC bo3 hR3 hB3 ⊢
        clear hW1 hbx
        obtain ⟨Wc, hWc⟩ : ∃ Wc, W1.putObj (W0.heap.size + 1) (.loop (r .busy none)) = Wc := ⟨_, rfl⟩
        have c0' := boxed_put hJ3.b0 (.loop (r .busy none)) hJ3.loop rfl
        have c1 := boxed_put hJ3.b1 (.loop (r .busy none)) hJ3.loop rfl
        have co := boxed_put bo3 (.loop (r .busy none)) hJ3.loop rfl
        have cb := boxed_put hB3 (.loop (r .busy none)) hJ3.loop rfl
        have cS := S_put hsC (.loop (r .busy none)) hJ3.loop rfl
        have cR := R_put hR3 (.loop (r .busy none)) hJ3.loop rfl
        have cB := below_put hJ3.below (.loop (r .busy none)) (l := W0.heap.size + 1) (by have := HSZ.out; omega)
        have cl := put_same (.loop (r .busy none)) hJ3.loop
        have cd' := put_other (.loop (r .busy none)) (k := W0.heap.size) (l := W0.heap.size + 1) (by omega) hJ3.coll
        have cX := put_other (.loop (r .busy none)) (k := bx) (l := W0.heap.size + 1) (by rintro rfl; have h := hJ3.loop; rw [hX3] at h; cases h) hX3
        rw [hWc] at c0' c1 co cb cS cR cB cl cd' cX ⊢
        clear hWc hJ3 bo3 hB3 hsC hR3 hX3
        have hv0 := Kd.R_base cR
        have hu0 : ∀ k, (Value.slice Av pre.length cv).ownBlock = some k → k < Wa.heap.size := fun k hk => (Kd.S_R cS).1 k hk
        have x1 : Wc.cell? ⟨w.heap.size + 1 + 1, 0, none⟩ = _ := co.cell
        have x2 := (blk_cell cX 0).trans rfl
        have x3 := (blk_cell cX 1).trans rfl
        have q0 : (x == 0) = false := beq_eq_false_iff_ne.2 hx0
        have q1 : (x == 255) = false := beq_eq_false_iff_ne.2 hx1
        gi_wp2_with (gi_at_builtin; refine wpListIn_of_one (by intro c hc; cases hc) (fun _ _ h => h) ?_; refine Kd.S_append k35 (w0 := w) w.heap.size rfl (.tmp 25) (.tmp 27) 24 35 (.agg #[.int .i64 0, .slice none 0 0]) 32 rfl Tryd.underlying24 pinfo rfl (by decide) (by decide) (.slice Av pre.length cv) pre (⟨x, d⟩ : OptP) [.int .i64 x, .slice Ad d.length cd] (fun _ => True) (fun k => some k = (Value.slice Ad d.length cd).ownBlock) rfl rfl ?aP ?aK ?aF ?aO ?aB ?aS ?aL ?_; (case aP => exact k35_mkM _ _ _ (⟨x, d⟩ : OptP) (Kd.R_tight rfl (Kd.R_lower cR hwa))); (case aK => exact fun k hk => ⟨trivial, fun e => by have h1 := hv0 k hk.symm; have h2 := hu0 k e.symm; omega⟩); (case aF => exact fun _ _ => trivial); (case aO => exact Kd.S_mono cS (fun k hk => ⟨trivial, fun e => by have h1 := hv0 k e.symm; omega⟩)); (case aB => exact cB); (case aS => exact cB.size); (case aL => omega); intro v1 w1 ho hb hg1 hat; obtain ⟨A1, c1', rfl⟩ := Kd.S_slice ho; have d0 := c0'.kept hg1 (Kd.S_ne cS c0' (by decide)); have d1 := c1.kept hg1 (Kd.S_ne cS c1 (by decide)); have do1 := co.kept hg1 (Kd.S_ne cS co (by decide)); have db1 := cb.kept hg1 (Kd.S_ne cS cb (by decide)); have dl1 := grown_heap cS hg1 cl rfl; have dd1 := grown_heap cS hg1 cd' rfl; clear c0' c1 co cb cl cd' cS cR cB cX x1 x2 x3 hat hg1 hv0 hu0; have x1 : w1.cell? ⟨w.heap.size + 1 + 1, 0, none⟩ = _ := do1.cell; have x2 : w1.frozen? ⟨w.heap.size + 1 + 1, 0, none⟩ = _ := do1.frozen; refine wpList_back ?_)
        rw [show (pre ++ [(⟨x, d⟩ : OptP)]).length = pre.length + 1 from by simp] at ho
        have e0 := boxed_set_other (B' := w.heap.size + 2) (.slice A1 (pre.length + 1) c1') d0 (by omega)
        have e1 := boxed_set_other (B' := w.heap.size + 2) (.slice A1 (pre.length + 1) c1') d1 (by omega)
        have eo := do1.set (.slice A1 (pre.length + 1) c1')
        have eb := boxed_set_other (B' := w.heap.size + 2) (.slice A1 (pre.length + 1) c1') db1 (by omega)
        have eS := Kd.S_set ho do1 (by decide) 0 (.slice A1 (pre.length + 1) c1')
        have el := set_heap (u := .slice A1 (pre.length + 1) c1') do1 dl1 rfl
        have ed := set_heap (u := .slice A1 (pre.length + 1) c1') do1 dd1 rfl
        have eB := hb.setCell (p := ⟨w.heap.size + 2, 0, none⟩) (show w.heap.size ≤ w.heap.size + 2 by omega) (.slice A1 (pre.length + 1) c1')
        refine ⟨el, rfl, ⟨boxed_put e0 _ el rfl, boxed_put e1 _ el rfl, ⟨A1, c1', ?_, ?_⟩, below_put eB _ (by have := HSZ.out; omega), put_same _ el, put_other _ (by omega) ed⟩, boxed_put eb _ el rfl⟩
        · rw [show (pre ++ [(⟨x, d⟩ : OptP)]).length = pre.length + 1 from by simp]; exact boxed_put eo _ el rfl
        · rw [show (pre ++ [(⟨x, d⟩ : OptP)]).length = pre.length + 1 from by simp]; exact S_put eS _ el rfl
      rintro e W' ⟨b, j, rfl, ⟨rfl, hJ4, hB4⟩, _⟩
      exact ⟨rfl, hJ4, hB4⟩
    case hY2 =>
      intro pre Wb rs As cs hJ hCr hcr hgo
      have ga := below_alloc (Below.refl Wb.heap.size Wb) (.cells #[.int .i64 255, .slice none 0 0] 35)
      have hJ3 := hJ.grow ga
      have hX3 := blk_new Wb (.cells #[.int .i64 255, .slice none 0 0] 35)
      refine yieldAt_mono (rf_roundA (n := 3) (W1 := Wb.alloc (.cells #[.int .i64 255, .slice none 0 0] 35)) (fun b _ W' => b = false ∧ DecE w W0.heap.size (r .done (some .ret)) (r1, r2) W') HRR.out hJ.loop hJ3.loop rfl
        { tmps := #[.slice A0 l0.length c0, undef, .pointer (some ⟨w.heap.size, 0, none⟩), .pointer (some ⟨w.heap.size + 1, 0, none⟩), .pointer (some ⟨w.heap.size + 1 + 1, 0, none⟩), .pointer (some ⟨Wb.heap.size, 0, none⟩), .slice As rs.length cs, .slice A0 l0.length c0, .int .i64 l0.length, .bool false, .slice A0 l0.length c0, .func (.func 16) #[] #[.pointer (some ⟨w.heap.size + 1 + 1 + 1, 0, none⟩)], .agg #[.int .i64 255, .slice none 0 0], .slice As rs.length cs, undef, undef, undef, undef, undef, undef, undef, undef, undef, undef, undef, undef, undef, undef, undef], defers := [] } ?asg2 ?bdy2) ?_
      case asg2 =>
        intro K hK
        gi_wp2
        exact hK
      case bdy2 =>
        obtain ⟨bx, hbx⟩ : ∃ b, Wb.heap.size = b := ⟨_, rfl⟩
        obtain ⟨W1, hW1⟩ : ∃ W, Wb.alloc (.cells #[.int .i64 255, .slice none 0 0] 35) = W := ⟨_, rfl⟩
        rw [hbx] at hX3 ⊢
        rw [hW1] at hX3 hJ3 ⊢
        clear hW1 hbx ga hJ
        obtain ⟨Wc, hWc⟩ : ∃ Wc, W1.putObj (W0.heap.size + 1) (.loop (r .busy none)) = Wc := ⟨_, rfl⟩
        obtain ⟨Av, cv, bo3, hs3⟩ := hJ3.row
        have c0' := boxed_put hJ3.b0 (.loop (r .busy none)) hJ3.loop rfl
        have c1 := boxed_put hJ3.b1 (.loop (r .busy none)) hJ3.loop rfl
        have co := boxed_put bo3 (.loop (r .busy none)) hJ3.loop rfl
        have cS := S_put hs3 (.loop (r .busy none)) hJ3.loop rfl
        have cB := below_put hJ3.below (.loop (r .busy none)) (l := W0.heap.size + 1) (by have := HSZ.out; omega)
        have cl := put_same (.loop (r .busy none)) hJ3.loop
        have cd' := put_other (.loop (r .busy none)) (k := W0.heap.size) (l := W0.heap.size + 1) (by omega) hJ3.coll
        have cX := put_other (.loop (r .busy none)) (k := bx) (l := W0.heap.size + 1) (by rintro rfl; have h := hJ3.loop; rw [hX3] at h; cases h) hX3
        rw [hWc] at c0' c1 co cS cB cl cd' cX ⊢
        clear hWc hJ3 bo3 hs3 hX3
        have x2 := (blk_cell cX 0).trans rfl
        have x4 := c0'.cell
        have x5 := c0'.frozen
        have x6 : ∀ u, (Wc.setCell ⟨w.heap.size, 0, none⟩ u).cell? ⟨w.heap.size + 1, 0, none⟩ = some (.int .i64 0) := fun u => (boxed_set_other (B' := w.heap.size) u c1 (by omega)).cell
        have x7 : ∀ u, (Wc.setCell ⟨w.heap.size, 0, none⟩ u).frozen? ⟨w.heap.size + 1, 0, none⟩ = false := fun u => (boxed_set_other (B' := w.heap.size) u c1 (by omega)).frozen
        gi_wp2_with fail
        refine ⟨trivial, CallsIn.inRound _ (callsIn_wide.2 ((trim_calls As cs rs Wc (Kd.C_below hCr cB) hcr).mono ?_))⟩
        rintro e W4 ⟨A', n', c', rfl, hn, hb4⟩
        have e0 := boxed_below c0' hb4
        have e1 := boxed_below c1 hb4
        have eo := boxed_below co hb4
        have eS := Kd.S_below cS hb4
        have eB := below_then cB cB.size hb4
        have el := below_heap hb4 cl
        have ed := below_heap hb4 cd'
        clear x2 x4 x5 x6 x7 c0' c1 co cS cB cl cd' cX hb4
        have x1 : W4.cell? ⟨w.heap.size + 1 + 1, 0, none⟩ = _ := eo.cell
        have x4 := e0.cell
        have x5 := e0.frozen
        have x6 : ∀ u, (W4.setCell ⟨w.heap.size, 0, none⟩ u).cell? ⟨w.heap.size + 1, 0, none⟩ = some (.int .i64 0) := fun u => (boxed_set_other (B' := w.heap.size) u e1 (by omega)).cell
        have x7 : ∀ u, (W4.setCell ⟨w.heap.size, 0, none⟩ u).frozen? ⟨w.heap.size + 1, 0, none⟩ = false := fun u => (boxed_set_other (B' := w.heap.size) u e1 (by omega)).frozen
        by_cases hn0 : n' = 0
        · subst hn0
          have e : odR l0 = (pre, 0) := by unfold odR; rw [if_neg hl, hgo]; simp only; rw [if_pos (hn.1 rfl)]
          obtain ⟨rfl, rfl⟩ := Prod.mk.inj (e.symm.trans HRES.out)
          have hE := dec_end (r := r) (D := W0.heap.size) (z := 0) e0 e1 eS eB el ed (by have := HSZ.out; omega)
          have HE := Lib.hid hE
          clear e hE hn hgo
          gi_wp2_with fail
          exact ⟨HE.out.1, rfl, HE.out.2⟩
        · have e : odR l0 = ([], 2) := by unfold odR; rw [if_neg hl, hgo]; simp only; rw [if_neg (fun h => hn0 (hn.2 h))]
          obtain ⟨rfl, rfl⟩ := Prod.mk.inj (e.symm.trans HRES.out)
          have hE := dec_end (r := r) (D := W0.heap.size) (z := 2) (xs := []) e0 e1 (Kd.S_nil k35 35 W4 w.heap.size (fun _ => True)) eB el ed (by have := HSZ.out; omega)
          have HE := Lib.hid hE
          have g1 : ((n' : Int) > 0) = True := eq_true (by omega)
          have g2 : (0 < n') = True := eq_true (by omega)
          clear e hE hn hgo hn0
          gi_wp2_with fail
          exact ⟨HE.out.1, rfl, HE.out.2⟩
      rintro e W' ⟨b, j, rfl, ⟨rfl, hE⟩, _⟩
      exact ⟨⟨_, rfl⟩, hE⟩
    case hY3 =>
      intro pre Wb hJ hgo
      have ga := below_alloc (Below.refl Wb.heap.size Wb) (.cells #[.int .i64 0, .slice none 0 0] 35)
      have hJ3 := hJ.grow ga
      have hX3 := blk_new Wb (.cells #[.int .i64 0, .slice none 0 0] 35)
      refine yieldAt_mono (rf_roundA (n := 3) (W1 := Wb.alloc (.cells #[.int .i64 0, .slice none 0 0] 35)) (fun b _ W' => b = false ∧ DecE w W0.heap.size (r .done (some .ret)) (r1, r2) W') HRR.out hJ.loop hJ3.loop rfl
        { tmps := #[.slice A0 l0.length c0, undef, .pointer (some ⟨w.heap.size, 0, none⟩), .pointer (some ⟨w.heap.size + 1, 0, none⟩), .pointer (some ⟨w.heap.size + 1 + 1, 0, none⟩), .pointer (some ⟨Wb.heap.size, 0, none⟩), .slice none 0 0, .slice A0 l0.length c0, .int .i64 l0.length, .bool false, .slice A0 l0.length c0, .func (.func 16) #[] #[.pointer (some ⟨w.heap.size + 1 + 1 + 1, 0, none⟩)], .agg #[.int .i64 0, .slice none 0 0], .slice none 0 0, undef, undef, undef, undef, undef, undef, undef, undef, undef, undef, undef, undef, undef, undef, undef], defers := [] } ?asg3 ?bdy3) ?_
      case asg3 =>
        intro K hK
        gi_wp2
        exact hK
      case bdy3 =>
        obtain ⟨bx, hbx⟩ : ∃ b, Wb.heap.size = b := ⟨_, rfl⟩
        obtain ⟨W1, hW1⟩ : ∃ W, Wb.alloc (.cells #[.int .i64 0, .slice none 0 0] 35) = W := ⟨_, rfl⟩
        rw [hbx] at hX3 ⊢
        rw [hW1] at hX3 hJ3 ⊢
        clear hW1 hbx ga hJ
        obtain ⟨Wc, hWc⟩ : ∃ Wc, W1.putObj (W0.heap.size + 1) (.loop (r .busy none)) = Wc := ⟨_, rfl⟩
        obtain ⟨Av, cv, bo3, hs3⟩ := hJ3.row
        have c0' := boxed_put hJ3.b0 (.loop (r .busy none)) hJ3.loop rfl
        have c1 := boxed_put hJ3.b1 (.loop (r .busy none)) hJ3.loop rfl
        have co := boxed_put bo3 (.loop (r .busy none)) hJ3.loop rfl
        have cS := S_put hs3 (.loop (r .busy none)) hJ3.loop rfl
        have cB := below_put hJ3.below (.loop (r .busy none)) (l := W0.heap.size + 1) (by have := HSZ.out; omega)
        have cl := put_same (.loop (r .busy none)) hJ3.loop
        have cd' := put_other (.loop (r .busy none)) (k := W0.heap.size) (l := W0.heap.size + 1) (by omega) hJ3.coll
        have cX := put_other (.loop (r .busy none)) (k := bx) (l := W0.heap.size + 1) (by rintro rfl; have h := hJ3.loop; rw [hX3] at h; cases h) hX3
        rw [hWc] at c0' c1 co cS cB cl cd' cX ⊢
        clear hWc hJ3 bo3 hs3 hX3
        have x2 := (blk_cell cX 0).trans rfl
        have x4 := c0'.cell
        have x5 := c0'.frozen
        have x6 : ∀ u, (Wc.setCell ⟨w.heap.size, 0, none⟩ u).cell? ⟨w.heap.size + 1, 0, none⟩ = some (.int .i64 0) := fun u => (boxed_set_other (B' := w.heap.size) u c1 (by omega)).cell
        have x7 : ∀ u, (Wc.setCell ⟨w.heap.size, 0, none⟩ u).frozen? ⟨w.heap.size + 1, 0, none⟩ = false := fun u => (boxed_set_other (B' := w.heap.size) u c1 (by omega)).frozen
        have e : odR l0 = ([], 2) := by unfold odR; rw [if_neg hl, hgo]
        obtain ⟨rfl, rfl⟩ := Prod.mk.inj (e.symm.trans HRES.out)
        gi_wp2_with fail
        have hE := dec_end (r := r) (D := W0.heap.size) (z := 2) (xs := []) c0' c1 (Kd.S_nil k35 35 Wc w.heap.size (fun _ => True)) cB cl cd' (by have := HSZ.out; omega)
        exact ⟨hE.1, rfl, hE.2⟩
      rintro e W' ⟨b, j, rfl, ⟨rfl, hE⟩, _⟩
      exact ⟨⟨_, rfl⟩, hE⟩
    case post =>
      rintro e W ⟨⟨v, rfl⟩, hE⟩
      refine ⟨⟨v, rfl⟩, .inr ⟨.ret, hE.loop, ?_⟩⟩
      obtain ⟨Av, cv, bo3, hs3⟩ := hE.row
      have c0' := boxed_put bo3 (.loop (r .exhausted (some .ret))) hE.loop rfl
      have c1 := boxed_put hE.b1 (.loop (r .exhausted (some .ret))) hE.loop rfl
      have cS := S_put hs3 (.loop (r .exhausted (some .ret))) hE.loop rfl
      have cB := below_put hE.below (.loop (r .exhausted (some .ret))) (l := W0.heap.size + 1) (by have := HSZ.out; omega)
      have cd' := put_other (.loop (r .exhausted (some .ret))) (k := W0.heap.size) (l := W0.heap.size + 1) (by omega) hE.coll
      obtain ⟨Wc, hWc⟩ : ∃ Wc, W.putObj (W0.heap.size + 1) (.loop (r .exhausted (some .ret))) = Wc := ⟨_, rfl⟩
      rw [hWc] at c0' c1 cS cB cd' ⊢
      clear hWc hE bo3 hs3
      gi_wp2
      refine ⟨by simp, .inl ⟨_, _, rfl, run_takeDeferred cd', ?_⟩⟩
      exact ⟨_, dec_results rfl rfl (boxed_put c0' _ cd' rfl) (boxed_put c1 _ cd' rfl), _, rfl, S_put cS _ cd' rfl, below_put cB _ (by have := HSZ.out; omega)⟩
end Go.Proofs.YtcefkkcmpdlnjaaDoor
