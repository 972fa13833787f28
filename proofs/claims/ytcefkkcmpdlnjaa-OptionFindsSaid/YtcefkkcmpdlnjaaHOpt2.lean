/-
  slices.DeleteFunc of options of the call's own, by any test. Conditions: no more than a million.
-/
import Derived.Test.YtcefkkcmpdlnjaaHOpt1
import Derived.WalkLawsBesides
namespace Go.Proofs.Ytcefkkcmpdlnjaa
open Go.RowKit Go.Proofs.Ytcefkkcmpdlnjaa.Pr Go.Proofs.YtcefkkcmpdlnjaaW.PrintWords Go.Proofs.YtcefkkcmpdlnjaaW.PrintLast Go.Proofs.YtcefkkcmpdlnjaaW.PrintMore
attribute [local go_sem] max2_int min2_int max_two min_two max_three min_three max_four min_four
set_option linter.unusedVariables false
set_option linter.unusedSimpArgs false

/-- All but the blocks of S is as it was. -/
structure OFr (w W : World) (S : Nat → Prop) : Prop where
  os : W.os = w.os
  tape : W.tape = w.tape
  output : W.output = w.output
  size : w.heap.size ≤ W.heap.size
  block : ∀ k, k < w.heap.size → ¬ S k → W.heap[k]? = w.heap[k]?
theorem OFr.refl (w : World) (S : Nat → Prop) : OFr w w S := ⟨rfl, rfl, rfl, Nat.le_refl _, fun _ _ _ => rfl⟩
theorem OFr.below {w W W2 : World} {S : Nat → Prop} (h : OFr w W S) (hb : Below W.heap.size W W2) : OFr w W2 S := ⟨hb.os.trans h.os, hb.tape.trans h.tape, hb.output.trans h.output, Nat.le_trans h.size hb.size, fun k hk hn => (hb.block k (Nat.lt_of_lt_of_le hk h.size)).trans (h.block k hk hn)⟩
theorem OFr.cells {w W : World} {S : Nat → Prop} (h : OFr w W S) {q : Nat} (hq : S q) (o : Nat) (vs : List Value) : OFr w (W.setCells q o vs) S := by
  obtain ⟨h1, h2, h3, h4⟩ := setCells_same q vs o W
  exact ⟨h1.trans h.os, h2.trans h.tape, h3.trans h.output, by rw [h4]; exact h.size, fun k hk hn => (setCells_far vs o k (fun e => hn (e ▸ hq))).trans (h.block k hk hn)⟩
theorem OFr.to_below {w W : World} {S : Nat → Prop} {B : Nat} (h : OFr w W S) (hB : B ≤ w.heap.size) (hS : ∀ k, S k → B ≤ k) : Below B w W :=
  ⟨h.os, h.tape, h.output, h.size, fun k hk => h.block k (by omega) (fun hs => by have := hS k hs; omega)⟩

theorem N_tail {α : Type} {d : Kd α} {e : Nat} {w : World} {base : Nat} {ok : Nat → Prop} {q n c o : Nat} {vs : List Value} {xs : List α} (h : Kd.N d e w base ok (.slice (some ⟨q, 0, none⟩) n c) xs) (ho : xs.length * d.sz ≤ o) (hl : o + vs.length ≤ c * d.sz) :
    Kd.N d e (w.setCells q o vs) base ok (.slice (some ⟨q, 0, none⟩) n c) xs := by
  obtain ⟨h0, rows, hr, hR, hf⟩ := h
  refine ⟨h0, rows, hr, ?_, fun j x cs hx hc => Kd.FK_step (hf j x cs hx hc) (fun k hk _ => setCells_far vs o k (fun e => hk.2 (by rw [e]; simp [Value.ownBlock])))⟩
  obtain ⟨ha, inner, ⟨hi, hown⟩, hrep⟩ := hR
  refine ⟨ha, inner, ⟨hi, ?_⟩, hrep⟩
  rcases hown with ⟨e1, _⟩ | ⟨g, cap, cur, e1, hb, hh, hn, hm, hs, ht⟩
  · cases e1
  · injection e1 with e1 e2 e3
    injection e1 with e1
    injection e1 with e1 _ _
    subst e1
    subst e2
    subst e3
    obtain ⟨cur', h1, h2, h3⟩ := setCells_row vs o w cur hh (by rw [hs]; exact hl)
    refine .inr ⟨q, c, cur', rfl, hb, h1, hn, hm, h2.trans hs, ?_⟩
    have hsz : (Kd.raw d.sz).sz = d.sz := rfl
    rw [hsz] at ht hs ⊢
    rw [hr] at ht ⊢
    have hcl : cur.toList.length = c * d.sz := by rw [Array.length_toList, hs]
    rw [← ht, h3, List.append_assoc, List.take_append_of_le_length (by rw [List.length_take, hcl]; omega), List.take_take, Nat.min_eq_left ho]
theorem N_cells {α : Type} {d : Kd α} {e : Nat} {w : World} {base : Nat} {ok : Nat → Prop} {q n c : Nat} {xs : List α} (h : Kd.N d e w base ok (.slice (some ⟨q, 0, none⟩) n c) xs) : ∃ cur, w.heap[q]? = some (.cells cur e (0, 0)) ∧ cur.size = c * d.sz ∧ n ≤ c ∧ n = xs.length := by
  obtain ⟨h0, rows, hr, ⟨ha, inner, ⟨hi, hown⟩, hrep⟩, hf⟩ := h
  rcases hown with ⟨e1, _⟩ | ⟨g, cap, cur, e1, hb, hh, hn, hm, hs, ht⟩
  · cases e1
  · injection e1 with e1 e2 e3
    injection e1 with e1
    injection e1 with e1 _ _
    subst e1
    subst e2
    subst e3
    exact ⟨cur, hh, hs, hn, hr⟩
def ozero (m : Nat) : List Value := (Builtin.zeroCells #[.int .i64 0, .slice none 0 0] m).toList
theorem ozero_len (m : Nat) : (ozero m).length = m * 2 := by simp [ozero, Builtin.zeroCells]
theorem ozero_one (m : Nat) : ∀ v ∈ ozero m, v.oneCell' = true := by
  intro v hv
  simp only [ozero, Builtin.zeroCells, Array.toList_map, List.mem_map] at hv
  obtain ⟨i, _, rfl⟩ := hv
  have : i % 2 = 0 ∨ i % 2 = 1 := by omega
  rcases this with h | h <;> simp [h] <;> rfl
theorem oclear_run (q n c i m : Nat) (w : World) (base : Nat) (ok : Nat → Prop) (ys : List OptF) (h : ON w base ok (.slice (some ⟨q, 0, none⟩) n c) ys) (hm : n = i + (m + 1)) (ty : TypeId) :
    (Builtin.clear_ #[22] ty #[.slice (some ⟨q, i * 2, none⟩) (m + 1) (c - i)]).run Try.prog w = .ok (.tuple #[]) (w.setCells q (i * 2) (ozero (m + 1))) := by
  obtain ⟨i0, hinf, hzz⟩ := Option.map_eq_some_iff.1 oinfo
  simp only [Prod.mk.injEq] at hzz
  obtain ⟨hz0, hsz, _⟩ := hzz
  obtain ⟨cur, hc, hs, hn, _⟩ := N_cells h
  have h1 : ∀ j, j < (ozero (m + 1)).length → (w.cell? ⟨q, i * 2 + 0 + j, none⟩).isSome = true := fun j hj => by
    rw [ozero_len] at hj
    obtain ⟨p, hp⟩ : ∃ p, p = i * 2 + 0 + j := ⟨_, rfl⟩
    rw [← hp, blk_cell hc p]
    have : p < cur.size := by rw [hs]; show p < c * 2; omega
    simp [this]
  have h2 : ∀ j, j < (ozero (m + 1)).length → w.frozen? ⟨q, i * 2 + 0 + j, none⟩ = false := fun j hj => blk_frozen hc _
  have h3 := run_storeCells_cells (P := Try.prog) q (i * 2) (ozero (m + 1)) 0 w h1 h2 (ozero_one _)
  simp [Builtin.clear_, run_underlying Try.underlying22, zeroValue, typeInfo, hinf, hz0, Result.andThen]
  rw [show (Builtin.zeroCells (Value.agg #[.int .i64 0, .slice none 0 0]).cells (m + 1)).toList = ozero (m + 1) from rfl, h3]
  rfl

set_option maxHeartbeats 1000000 in
theorem filter_step {p : OptF → Bool} {l ys : List OptF} {i j n : Nat} (hn : ys.length = n) (hl : l.length = n) (hj : j < n) (hij : i ≤ j) (h1 : ys.take i = (l.take j).filter (fun x => !p x)) (h2 : ys.drop j = l.drop j) :
    ys[j]'(by omega) = l[j]'(by omega) ∧ (p (l[j]'(by omega)) = true → ys.take i = (l.take (j + 1)).filter (fun x => !p x) ∧ ys.drop (j + 1) = l.drop (j + 1)) ∧
      (p (l[j]'(by omega)) = false → (ys.set i (l[j]'(by omega))).take (i + 1) = (l.take (j + 1)).filter (fun x => !p x) ∧ (ys.set i (l[j]'(by omega))).drop (j + 1) = l.drop (j + 1)) := by
  have d1 := List.drop_eq_getElem_cons (l := ys) (i := j) (by omega)
  have d2 := List.drop_eq_getElem_cons (l := l) (i := j) (by omega)
  rw [h2, d2] at d1
  injection d1 with e1 e2
  refine ⟨e1.symm, fun hp => ⟨?_, e2.symm⟩, fun hp => ⟨?_, ?_⟩⟩
  · rw [h1, List.take_succ_eq_append_getElem (by omega), List.filter_append]
    simp [hp]
  · rw [List.take_succ_eq_append_getElem (by rw [List.length_set]; omega), List.take_set_of_le (by omega), h1, List.getElem_set_self, List.take_succ_eq_append_getElem (by omega), List.filter_append]
    simp [hp]
  · rw [List.drop_set_of_lt (by omega)]; exact e2.symm
theorem filter_start {p : OptF → Bool} {l : List OptF} {k : Nat} (hk : k < l.length) (h0 : ∀ x ∈ l.take k, p x = false) (h1 : p l[k] = true) : l.take k = (l.take (k + 1)).filter (fun x => !p x) := by
  rw [List.take_succ_eq_append_getElem hk, List.filter_append, List.filter_eq_self.2 (fun x hx => by rw [h0 x hx]; rfl)]
  simp [h1]
theorem ix_split (p : OptF → Bool) (l : List OptF) : (ixOf p l = -1 ∧ l.filter (fun x => !p x) = l) ∨ ∃ (k : Nat) (hk : k < l.length), ixOf p l = k ∧ l.take k = (l.take (k + 1)).filter (fun x => !p x) := by
  unfold ixOf
  by_cases h : l.findIdx p < l.length
  · rw [if_pos h]
    refine .inr ⟨_, h, rfl, filter_start h (fun x hx => ?_) (List.findIdx_getElem (w := h))⟩
    obtain ⟨j, hj, rfl⟩ := List.mem_iff_getElem.1 hx
    rw [List.length_take] at hj
    rw [List.getElem_take]
    simpa using List.not_of_lt_findIdx (by omega : j < l.findIdx p)
  · rw [if_neg h]
    refine .inl ⟨rfl, List.filter_eq_self.2 (fun x hx => ?_)⟩
    have h2 : ∀ x ∈ l, p x = false := List.findIdx_eq_length.1 (by have := List.findIdx_le_length (p := p) (xs := l); omega)
    rw [h2 x hx]; rfl

/-- A box of an option. -/
abbrev Boxed2 (W : World) (b : Nat) (n : Int) (v : Value) : Prop := W.heap[b]? = some (.cells #[.int .i64 n, v] 40 (0, 0))
theorem OFr.own {w W : World} {q : Nat} {v : Value} (h : OFr w W (fun k => k = q)) (hv : v.ownBlock = some q) : OFr w W (fun k => v.ownBlock = some k) := ⟨h.os, h.tape, h.output, h.size, fun k hk hn => h.block k hk (fun e => hn (by rw [e]; exact hv))⟩
theorem fr_of_below {w W : World} (h : Below w.heap.size w W) (S : Nat → Prop) : OFr w W S := (OFr.refl w S).below h
set_option maxHeartbeats 4000000 in
set_option maxRecDepth 100000 in
theorem del_calls (p : OptF → Bool) (gf : Nat) (lb : Array Value) (eg : ∀ args w, (callFunc gf args).run Try.prog w = .ok (.enter gf args) w) (v : Value) (l : List OptF) (w : World) (base : Nat) (hN : ON w base (fun _ => True) v l) (hl : l.length ≤ 1000000)
    (hcl : ∀ (x : OptF) (A1 : Option Addr) (c1 : Nat) (W : World), OFr w W (fun k => v.ownBlock = some k) → Calls Try.prog gf (#[.agg #[.int .i64 x.f0, .slice A1 x.f1.length c1]] ++ lb) W fun e W' => e = .returned (.bool (p x)) ∧ Below W.heap.size W W') :
    Calls Try.prog 27 #[v, .func (.func gf) #[] lb] w fun e w' => ∃ v', e = .returned v' ∧ ON w' base (fun _ => True) v' (l.filter (fun x => !p x)) ∧ OFr w w' (fun k => v.ownBlock = some k) := by
  obtain ⟨A, c, rfl⟩ := Kd.N_slice hN
  obtain ⟨_, hc, hC⟩ := Kd.N_reads' hN
  have HIX := Lib.hid (ix_calls p gf lb eg A c l w hC hc (fun k hk A1 c1 W hW => hcl l[k] A1 c1 W (fr_of_below hW _)))
  have HN := Lib.hid hN
  have HE := Lib.hid eg
  have HCL := Lib.hid hcl
  clear hN hC eg hcl
  rcases ix_split p l with ⟨hix, hfl⟩ | ⟨k0, hk0, hix, hst⟩
  · have HF := Lib.hid hfl
    rw [hix] at HIX
    clear hix hfl
    go_enter Try.func27, Try.ntmps27
    go_wp2_with fail
    refine HIX.out.mono ?_
    rintro e w1 ⟨rfl, hb⟩
    have HB := Lib.hid hb
    clear hb
    go_wp2_with fail
    go_ret
    exact ⟨_, rfl, by rw [HF.out]; exact Kd.N_below HN.out HB.out, fr_of_below HB.out _⟩
  · obtain ⟨q, cap, he, hq1, hq2, _⟩ := Kd.N_form HN.out (by omega)
    injection he with e1 _ e3
    subst e3
    have HN0 := Lib.hid HN.out
    rw [e1] at HN0
    rw [hix] at HIX
    have HST := Lib.hid hst
    obtain ⟨adq, hadq⟩ : ∃ a, a = (⟨q, 0, none⟩ : Addr) := ⟨_, rfl⟩
    rw [← hadq] at e1
    subst e1
    have HADQ := Lib.hid hadq
    have HQ : Hid (base ≤ q ∧ q < w.heap.size) := ⟨hq1, hq2⟩
    have HOW : Hid ((Value.slice (some adq) l.length c).ownBlock = some q) := by show _ = _; rw [hadq]; simp [Value.ownBlock]
    have hadd : ∀ i : Nat, adq.add (i * 2) = ⟨q, i * 2, none⟩ := fun i => by rw [hadq, add_at, Nat.zero_add]
    have HADD := Lib.hid hadd
    clear hst hix hadq hq1 hq2 HN hadd
    go_enter Try.func27, Try.ntmps27
    go_wp2_with fail
    refine HIX.out.mono ?_
    rintro e w1 ⟨rfl, hb⟩
    have HB := Lib.hid hb
    clear hb HIX
    have p0 : ((k0 : Int) == -1) = false := beq_eq_false_iff_ne.2 (by omega)
    have p1 : ((k0 : Int) = -1) = False := eq_false (by omega)
    go_wp2_with fail
    go_loopw [5, 6] (fun vi vj wr => ∃ (i j : Nat) (ys : List OptF), vi = .int .i64 i ∧ vj = .int .i64 j ∧ i < j ∧ j ≤ l.length ∧ Hid (ON wr base (fun _ => True) (.slice (some ⟨q, 0, none⟩) l.length c) ys) ∧ Hid (ys.length = l.length ∧ ys.take i = (l.take j).filter (fun x => !p x) ∧ ys.drop j = l.drop j) ∧ Hid (OFr w wr (fun k => k = q))) (fun _ vj _ => l.length - (intOf vj).toNat)
    case atStart => exact ⟨k0, k0 + 1, l, rfl, by go_num, by omega, by omega, Kd.N_below HN0.out HB.out, ⟨rfl, HST.out, rfl⟩, fr_of_below HB.out _⟩
    case round =>
      clear HB p0 p1 HN0
      obtain ⟨i, j, ys, rfl, rfl, hij, hj, HN, HYS, HW⟩ := hrel
      by_cases hlt : j < l.length
      · obtain ⟨f1, f2, f3⟩ := filter_step HYS.out.1 rfl hlt (by omega) HYS.out.2.1 HYS.out.2.2
        obtain ⟨x, hx⟩ : ∃ x, x = l[j] := ⟨_, rfl⟩
        rw [← hx] at f1 f2 f3
        have HYL : Hid (ys.length = l.length) := HYS.out.1
        have F2 := Lib.hid f2
        have F3 := Lib.hid f3
        obtain ⟨cs, hcs, hK, hcc, _⟩ := Kd.N_elem HN.out ⟨0, []⟩ (j : Int) (by omega) (by omega)
        rw [Int.toNat_natCast] at hK hcc
        rw [show ys.getD j ⟨0, []⟩ = x from by rw [List.getD_eq_getElem?_getD, List.getElem?_eq_getElem (by rw [HYL.out]; omega)]; exact f1] at hK
        obtain ⟨A1, c1, rfl, hl1, _⟩ := k40_openF hK
        have HK := Lib.hid hK
        have y0 : wr.cell? (adq.add (j * 2)) = some (.int .i64 x.f0) := by rw [HADD.out]; exact hcc 0 _ rfl
        have y1 : wr.cell? ⟨(adq.add (j * 2)).block, (adq.add (j * 2)).off + 1, none⟩ = some (.slice A1 x.f1.length c1) := by rw [HADD.out]; exact hcc 1 _ rfl
        obtain ⟨bx, hbx⟩ : ∃ b, wr.heap.size = b := ⟨_, rfl⟩
        obtain ⟨Wa, hWa⟩ : ∃ W, wr.alloc (.cells #[.int .i64 x.f0, .slice A1 x.f1.length c1] 40) = W := ⟨_, rfl⟩
        have HWA : Hid (Below wr.heap.size wr Wa) := by show Below _ _ _; rw [← hWa]; exact below_alloc (Below.refl _ _) _
        have HBX : Hid (Boxed2 Wa bx x.f0 (.slice A1 x.f1.length c1)) := by show _ = _; rw [← hWa, ← hbx]; exact blk_new _ _
        have HCW := Lib.hid (HCL.out x A1 c1 Wa ((HW.out.below HWA.out).own HOW.out))
        have p1 : (0 ≤ (j : Int)) = True := eq_true (by omega)
        have p2 : ((j : Int) < (l.length : Int)) = True := eq_true (by omega)
        clear hK hcc hcs f1 f2 f3 hx HYS
        go_upto_region 8 with fail
        clear y0 y1
        have e0 : Wa.cell? ⟨bx, 0, none⟩ = some (.int .i64 x.f0) := (blk_cell HBX.out 0).trans rfl
        have e1 : Wa.cell? ⟨bx, 1, none⟩ = some (.slice A1 x.f1.length c1) := (blk_cell HBX.out 1).trans rfl
        clear hWa hbx
        cases hp : p x with
        | true =>
          rw [hp] at HCW
          have G2 := Lib.hid (F2.out hp)
          clear hp
          go_wp2_with (first
            | (with_reducible refine goesv1 (oi := ⟨some 28, _, _, _, _, _⟩) (some 28) rfl rfl (.tmp 26) (.tmp 27) #[40] rfl rfl rfl HE.out ?_)
            | fail)
          refine HCW.out.mono ?_
          rintro e W1 ⟨rfl, hb1⟩
          refine ⟨_, rfl, ?_⟩
          have HN1 := Lib.hid (Kd.N_below (Kd.N_below HN.out HWA.out) hb1)
          have HW1 := Lib.hid ((HW.out.below HWA.out).below hb1)
          clear hb1 HCW e0 e1
          go_wp2_with fail
          go_roundw
          case rel =>
            first
              | exact ⟨i, j + 1, ys, rfl, by go_num, by omega, by omega, HN1, ⟨HYL.out, G2.out⟩, HW1⟩
              | ((repeat apply Exists.intro); exact ⟨⟨i, j + 1, ys, rfl, by go_num, by omega, by omega, HN1, ⟨HYL.out, G2.out⟩, HW1⟩, rfl⟩)
          case measure => simp [intOf]; omega
        | false =>
          rw [hp] at HCW
          have G3 := Lib.hid (F3.out hp)
          clear hp
          go_wp2_with (first
            | (with_reducible refine goesv1 (oi := ⟨some 28, _, _, _, _, _⟩) (some 28) rfl rfl (.tmp 26) (.tmp 27) #[40] rfl rfl rfl HE.out ?_)
            | fail)
          refine HCW.out.mono ?_
          rintro e W1 ⟨rfl, hb1⟩
          refine ⟨_, rfl, ?_⟩
          have HN1 := Lib.hid (Kd.N_below (Kd.N_below HN.out HWA.out) hb1)
          have HW1 := Lib.hid ((HW.out.below HWA.out).below hb1)
          have HK1 := Lib.hid (Kd.FK_below (Kd.FK_below HK.out HWA.out) hb1)
          have HBX1 : Hid (Boxed2 W1 bx x.f0 (.slice A1 x.f1.length c1)) := (hb1.block bx (blk_lt HBX.out)).trans HBX.out
          clear hb1 HCW e0 e1
          obtain ⟨ci, hci, hKi, hcci, hfzi⟩ := Kd.N_elem HN1.out ⟨0, []⟩ (i : Int) (by omega) (by omega)
          rw [Int.toNat_natCast] at hKi hcci hfzi
          obtain ⟨Ai, cci, rfl, _, _⟩ := k40_openF hKi
          have e0 : W1.cell? ⟨bx, 0, none⟩ = some (.int .i64 x.f0) := (blk_cell HBX1.out 0).trans rfl
          have e1 : W1.cell? ⟨bx, 1, none⟩ = some (.slice A1 x.f1.length c1) := (blk_cell HBX1.out 1).trans rfl
          have y0 : W1.cell? (adq.add (i * 2)) = some (.int .i64 (ys.getD i ⟨0, []⟩).f0) := by rw [HADD.out]; exact hcci 0 _ rfl
          have y1 : W1.cell? ⟨(adq.add (i * 2)).block, (adq.add (i * 2)).off + 1, none⟩ = some (.slice Ai (ys.getD i ⟨0, []⟩).f1.length cci) := by rw [HADD.out]; exact hcci 1 _ rfl
          have z0 : W1.frozen? (adq.add (i * 2)) = false := by rw [HADD.out]; exact hfzi 0
          have z1 : W1.frozen? ⟨(adq.add (i * 2)).block, (adq.add (i * 2)).off + 1, none⟩ = false := by rw [HADD.out]; exact hfzi 1
          obtain ⟨cur1, hcur1, -⟩ := N_cells HN1.out
          have y2 : ∀ u, (W1.setCell (adq.add (i * 2)) u).cell? ⟨(adq.add (i * 2)).block, (adq.add (i * 2)).off + 1, none⟩ = some (.slice Ai (ys.getD i ⟨0, []⟩).f1.length cci) := fun u => by
            rw [HADD.out]
            refine (blk_cell (blk_set hcur1 (i * 2) u) (i * 2 + 1)).trans ?_
            rw [Array.getElem?_setIfInBounds_ne (by omega)]
            exact (blk_cell hcur1 (i * 2 + 1)).symm.trans (hcci 1 _ rfl)
          have z2 : ∀ u, (W1.setCell (adq.add (i * 2)) u).frozen? ⟨(adq.add (i * 2)).block, (adq.add (i * 2)).off + 1, none⟩ = false := fun u => by
            rw [HADD.out]
            exact blk_frozen (blk_set hcur1 (i * 2) u) (i * 2 + 1)
          have p3 : (0 ≤ (i : Int)) = True := eq_true (by omega)
          have p4 : ((i : Int) < (l.length : Int)) = True := eq_true (by omega)
          have HSEG := Lib.hid (Kd.N_seg HN1.out (i : Int) (by omega) (by omega) (seg := [.int .i64 x.f0, .slice A1 x.f1.length c1]) (j := 0) hci (by rw [Int.toNat_natCast]; exact hcci) (by show 0 + 2 ≤ 2; decide) (x' := x) (okp := fun k => True ∧ k ≠ q) HK1.out (fun k hk => hk))
          clear hKi hcci hfzi hci hcur1
          go_wp2_with fail
          go_roundw
          case rel =>
            have hw5 : (W1.setCell (adq.add (i * 2)) (.int .i64 x.f0)).setCell ⟨(adq.add (i * 2)).block, (adq.add (i * 2)).off + 1, none⟩ (.slice A1 x.f1.length c1) = W1.setCells q ((i : Int).toNat * 2 + 0) [.int .i64 x.f0, .slice A1 x.f1.length c1] := by rw [HADD.out, Int.toNat_natCast]; rfl
            have h1 : Hid (ON ((W1.setCell (adq.add (i * 2)) (.int .i64 x.f0)).setCell ⟨(adq.add (i * 2)).block, (adq.add (i * 2)).off + 1, none⟩ (.slice A1 x.f1.length c1)) base (fun _ => True) (.slice (some ⟨q, 0, none⟩) l.length c) (ys.set i x)) := by
              show ON _ _ _ _ _
              rw [hw5]
              exact HSEG.out.1
            have h2 : Hid (OFr w ((W1.setCell (adq.add (i * 2)) (.int .i64 x.f0)).setCell ⟨(adq.add (i * 2)).block, (adq.add (i * 2)).off + 1, none⟩ (.slice A1 x.f1.length c1)) (fun k => k = q)) := by
              show OFr _ _ _
              rw [hw5]
              exact HW1.out.cells rfl _ _
            first
              | exact ⟨i + 1, j + 1, ys.set i x, by go_num, by go_num, by omega, by omega, h1, ⟨by rw [List.length_set]; exact HYL.out, G3.out⟩, h2⟩
              | ((repeat apply Exists.intro); exact ⟨⟨i + 1, j + 1, ys.set i x, by go_num, by go_num, by omega, by omega, h1, ⟨by rw [List.length_set]; exact HYL.out, G3.out⟩, h2⟩, rfl⟩)
          case measure => simp [intOf]; omega
      · obtain rfl : j = l.length := by omega
        have p2 : ((l.length : Int) < (l.length : Int)) = False := eq_false (by omega)
        obtain ⟨i0, hinf, hzz⟩ := Option.map_eq_some_iff.1 oinfo
        simp only [Prod.mk.injEq] at hzz
        obtain ⟨m, hm⟩ : ∃ m, l.length = i + (m + 1) := ⟨l.length - i - 1, by omega⟩
        obtain ⟨cur, -, -, hn, -⟩ := N_cells HN.out
        have r1 := cut_from (P := Try.prog) 22 40 .i64 Try.underlying22 hinf 2 hzz.2.1 (some adq) l.length c (i : Int) (by omega) (by omega)
        rw [Int.toNat_natCast, if_neg (by omega), show l.length - i = m + 1 from by omega, Option.map_some] at r1
        have r2 := cut_to (P := Try.prog) 22 40 .i64 Try.underlying22 hinf (some adq) l.length c (i : Int) (by omega) (by omega) hn
        rw [Int.toNat_natCast] at r2
        obtain ⟨Wc, hWc⟩ : ∃ W, wr.setCells q (i * 2) (ozero (m + 1)) = W := ⟨_, rfl⟩
        have r3 : ∀ ty, (Builtin.clear_ #[22] ty #[.slice (some (adq.add (i * 2))) (m + 1) (c - i)]).run Try.prog wr = .ok (.tuple #[]) Wc := fun ty => by rw [HADD.out, ← hWc]; exact oclear_run q l.length c i m wr base _ ys HN.out hm ty
        have HT : Hid (ON Wc base (fun _ => True) (.slice (some ⟨q, 0, none⟩) i c) (l.filter (fun x => !p x))) := by
          show ON _ _ _ _ _
          have h1 := Kd.N_take HN.out (m := i) (by rw [HYS.out.1]; omega)
          rw [HYS.out.2.1, List.take_length] at h1
          have h3 : (l.filter (fun x => !p x)).length = i := by
            have := HYS.out.2.1
            rw [List.take_length] at this
            rw [← this, List.length_take, HYS.out.1]; omega
          rw [← hWc]
          exact N_tail h1 (by rw [h3]; exact Nat.le_refl _) (by rw [ozero_len]; show i * 2 + (m + 1) * 2 ≤ c * 2; omega)
        have HFR : Hid (OFr w Wc (fun k => k = q)) := by
          show OFr _ _ _
          rw [← hWc]
          exact HW.out.cells rfl _ _
        have p3 : (0 ≤ (i : Int)) = True := eq_true (by omega)
        clear hWc hinf hzz hm hn HYS HN HW
        go_wp2_with fail
        go_ret
        exact ⟨_, rfl, by rw [HADQ.out]; exact HT.out, HFR.out.own HOW.out⟩
end Go.Proofs.Ytcefkkcmpdlnjaa
