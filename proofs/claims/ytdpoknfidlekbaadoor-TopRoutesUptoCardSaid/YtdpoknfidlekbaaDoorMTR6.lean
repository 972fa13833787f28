/-
  slices.Clone of options, and options that share no memory with others. Conditions: no more than a million, fewer than 2^47 bytes of data each.
  slices.DeleteFunc of options of the call's own, by any test. Conditions: no more than a million.
  slices.Concat of options: all of them, one behind the other. Conditions: at least one, no more than two millions in all.
  option.Put: an option put in the place of those of its code, or behind all. Conditions: no more than half a million, fewer than 2^47 bytes of data each.
  The statement TopRoutes walked: routes laid in an option of a packet, encoded and decoded. Condition: bytes, 32-bit numbers, and at most 1048576 of all.
-/
import Derived.Test.YtdpoknfidlekbaaDoorMTR5
import Derived.WalkLawsBesides
import Derived.Test.YtdpoknfidlekbaaDoorMTR2
import Derived.Test.YtdpoknfidlekbaaDoorMTR1

section
namespace Go.Proofs.YtdpoknfidlekbaaDoor
open Go.RowKit Go.Proofs.YtdpoknfidlekbaaDoor.Pr Go.Proofs.YtdpoknfidlekbaaDoorW.PrintWords Go.Proofs.YtdpoknfidlekbaaDoorW.PrintLast Go.Proofs.YtdpoknfidlekbaaDoorW.PrintMore
attribute [local go_sem] max2_int min2_int max_two min_two max_three min_three max_four min_four
set_option linter.unusedVariables false
set_option linter.unusedSimpArgs false

set_option maxHeartbeats 1000000 in
set_option maxRecDepth 100000 in
theorem oclone_ok (ok : Nat → Prop) (A : Option Addr) (c : Nat) (l : List OptF) (w : World) (hF : Kd.F k53 w ok A l.length l) (hfr : ∀ k, w.heap.size ≤ k → ok k) (hc : l.length ≤ c) (hl : l.length ≤ 1000000) :
    Calls Tryd.prog 20 #[.slice A l.length c] w fun e w' => ∃ v, e = .returned v ∧ ON w' w.heap.size ok v l ∧ Below w.heap.size w w' := by
  have HF := Lib.hid (Kd.F_bound hF)
  have HFR := Lib.hid hfr
  have HL := Lib.hid hl
  have hC := Kd.F_now hF
  have hq := Lib.run_eql_slice_nil (P := Tryd.prog) w 25 53 A l.length c 0 0 Tryd.underlying25
  have HW := Lib.hid (Below.refl w.heap.size w)
  clear hF hl hfr
  cases A with
  | none =>
    obtain rfl : l = [] := by
      cases l with
      | nil => rfl
      | cons x xs =>
        obtain ⟨ad, h, _⟩ := hC.2.2 (by simp)
        cases h
    clear hC HF
    simp only [List.length_nil] at hq ⊢
    go_enter Tryd.func20, Tryd.ntmps20
    go_wp2
    go_ret
    exact ⟨_, rfl, Kd.N_nil _ _ _ _ _, HW.out⟩
  | some ad =>
    clear hC
    go_enter Tryd.func20, Tryd.ntmps20
    go_wp2_with (first
      | ((with_reducible refine gate_dst (N := 5) rfl ?_); (try (refine gate_guard (by rfl) ?_; dsimp only)); refine Kd.R_lit k53 (w0 := w) w.heap.size 53 ?hg (N := 5) ?hd (xs := ([] : List OptF)) (inner := []) (ok := ok) (okp := ok) ?hr ?hp (fun _ hk => hk) (HFR.out _ (Nat.le_refl _)) (Below.refl _ _) (Nat.le_refl _) (by simp) ?_; (case hd => rfl); (case hg => rfl); (case hr => first | (go_simp; done) | (go_simp; rfl)); (case hp => exact (Reps.none _ _)); intro v3 w3 ho3 hb3 _ _; have HO3 := Lib.hid (Kd.R_N ho3); have HW3 := Lib.hid hb3; clear ho3 hb3)
      | ((with_reducible refine gate_builtin (b := .append) (xs := #[.tmp 5, .tmp 6]) rfl ?_); (try (refine gate_guard (by rfl) ?_; dsimp only)); at_builtin; refine Kd.N_append_rows k53 (w0 := w) w.heap.size rfl (.tmp 5) (.tmp 6) 25 53 (.agg #[.int .i64 0, .slice none 0 0]) 32 rfl Tryd.underlying25 oinfo rfl (by decide) (by omega) v3 [] l _ _ _ ok (fun k => ok k ∧ k < w.heap.size) rfl rfl HO3.out (Kd.F_below HF.out HW3.out) (fun k hk => ⟨hk.1, fun e => by have := Kd.N_base HO3.out k e.symm; have := hk.2; omega⟩) (fun k hk => HFR.out k (Nat.le_trans HW3.out.size hk)) HW3.out HW3.out.size (by have := HL.out; simp; omega) ?_; intro v5 w5 ho5 hb5 hg5 hat5; rw [List.nil_append] at ho5; have HO5 := Lib.hid ho5; have HW5 := Lib.hid hb5; clear ho5 hg5 hat5 hb5)
      | fail)
    go_ret
    exact ⟨_, rfl, HO5.out, HW5.out⟩
theorem oclone_calls (A : Option Addr) (c : Nat) (l : List OptF) (w : World) (hF : Kd.F k53 w (fun k => k < w.heap.size) A l.length l) (hc : l.length ≤ c) (hl : l.length ≤ 1000000) :
    Calls Tryd.prog 20 #[.slice A l.length c] w fun e w' => ∃ v, e = .returned v ∧ ON w' w.heap.size (fun _ => True) v l ∧ Below w.heap.size w w' :=
  oclone_ok (fun _ => True) A c l w (Kd.F_mono hF (fun _ _ => trivial)) (fun _ _ => trivial) hc hl

set_option maxHeartbeats 2000000 in
set_option maxRecDepth 100000 in
theorem owned_ok (ok : Nat → Prop) (A : Option Addr) (c : Nat) (l : List OptF) (w : World) (hF : Kd.F k53 w ok A l.length l) (hfr : ∀ k, w.heap.size ≤ k → ok k) (hc : l.length ≤ c) (hl : l.length ≤ 1000000) (hd : ∀ x ∈ l, x.f1.length < 140737488355328) :
    Calls Tryd.prog 16 #[.slice A l.length c] w fun e w' => ∃ v, e = .returned v ∧ ON w' w.heap.size ok v l ∧ Below w.heap.size w w' := by
  have HF := Lib.hid hF
  have HFR := Lib.hid hfr
  have HD := Lib.hid hd
  clear hF hd hfr
  go_enter Tryd.func16, Tryd.ntmps16
  go_upto_region 2 with (go_at_call 20; refine (oclone_ok ok A c l _ HF.out HFR.out hc hl).mono ?_; rintro e w1 ⟨v1, rfl, hn, hb⟩; have HN1 := Lib.hid hn; have HW1 := Lib.hid hb; clear hn hb)
  obtain ⟨Av, cv, rfl⟩ := Kd.N_slice HN1.out
  go_wp2_with fail
  go_loopw [10] (fun i wr => ∃ k : Nat, k ≤ l.length ∧ i = .int .i64 k ∧ Hid (ON wr w.heap.size ok (.slice Av l.length cv) l) ∧ Hid (Below w.heap.size w wr)) (fun i _ => l.length - (intOf i).toNat)
  case atStart => exact ⟨0, Nat.zero_le _, rfl, HN1, HW1⟩
  case round =>
    clear HN1 HW1
    obtain ⟨k, hk, rfl, HN, HW⟩ := hrel
    by_cases hlt : k < l.length
    · obtain ⟨q, cap, he, hq1, hq2, _⟩ := Kd.N_form HN.out (by omega)
      obtain ⟨adq, hadq⟩ : ∃ a, a = (⟨q, 0, none⟩ : Addr) := ⟨_, rfl⟩
      injection he with e1 _ e3
      subst e3
      have HN' := Lib.hid HN.out
      rw [e1] at HN'
      obtain ⟨cs, hcl, hK, hcc, hfz⟩ := Kd.N_elem HN'.out ⟨0, []⟩ (k : Int) (by omega) (by omega)
      rw [Int.toNat_natCast] at hK hcc hfz
      obtain ⟨x, hx⟩ : ∃ x, x = l[k] := ⟨_, rfl⟩
      rw [show l.getD k ⟨0, []⟩ = x from by rw [List.getD_eq_getElem?_getD, List.getElem?_eq_getElem hlt, hx]; rfl] at hK
      have HXL : Hid (x.f1.length < 140737488355328) := by show _ < _; rw [hx]; exact HD.out _ (List.getElem_mem hlt)
      have HX := Lib.hid hx
      obtain ⟨A1, c1, rfl, hl1, hF1⟩ := k53_openF hK
      have a2 : adq.add (k * 2) = ⟨q, k * 2, none⟩ := by rw [hadq, add_at, Nat.zero_add]
      have y0 : wr.cell? (adq.add (k * 2)) = some (.int .i64 x.f0) := by rw [a2]; exact hcc 0 _ rfl
      have y1 : wr.cell? ⟨(adq.add (k * 2)).block, (adq.add (k * 2)).off + 1, none⟩ = some (.slice A1 x.f1.length c1) := by rw [a2]; exact hcc 1 _ rfl
      have z1 : wr.frozen? ⟨(adq.add (k * 2)).block, (adq.add (k * 2)).off + 1, none⟩ = false := by rw [a2]; exact hfz 1
      have HF1 := Lib.hid hF1
      have HL1 := Lib.hid hl1
      have HA2 := Lib.hid a2
      have HCC := Lib.hid hcc
      have HQ : Hid (w.heap.size ≤ q ∧ q < wr.heap.size) := ⟨hq1, hq2⟩
      rw [← hadq] at e1
      subst e1
      have p1 : (0 ≤ (k : Int)) = True := eq_true (by omega)
      have p2 : ((k : Int) < (l.length : Int)) = True := eq_true (by omega)
      have HADQ := Lib.hid hadq
      clear hx hK hcc hfz hF1 hl1 a2 hadq HN hq1 hq2
      have HWA := Lib.hid (below_alloc (Below.refl wr.heap.size wr) (.cells #[.int .i64 x.f0, .slice A1 x.f1.length c1] 53))
      have HNA := Lib.hid (Kd.N_alloc HN'.out (.cells #[.int .i64 x.f0, .slice A1 x.f1.length c1] 53))
      have HCA := Lib.hid (Kd.C_alloc (Kd.F_now HF1.out) (.cells #[.int .i64 x.f0, .slice A1 x.f1.length c1] 53))
      go_wp2_with fail
      refine (clone_calls A1 c1 x.f1 _ HCA.out HL1.out HXL.out).mono ?_
      rintro e w4 ⟨v4, rfl, hv4, hb4⟩
      have HN4 := Lib.hid (Kd.N_below HNA.out hb4)
      have HB4 := Lib.hid (HWA.out.trans (hb4.mono HWA.out.size))
      have HV4 := Lib.hid (Kd.R_reok (ok := fun k => wr.heap.size ≤ k) rfl hv4 (fun j hj => by have := Kd.R_base hv4 j hj; have := HWA.out.size; omega))
      obtain ⟨A4, c4, rfl⟩ := Kd.R_slice hv4
      clear hv4 hb4 y0 y1 z1 HCC HWA HNA HCA
      obtain ⟨cs4, hcl4, hK4, hcc4, hfz4⟩ := Kd.N_elem HN4.out ⟨0, []⟩ (k : Int) (by omega) (by omega)
      rw [Int.toNat_natCast] at hK4 hcc4 hfz4
      obtain ⟨A5, c5, rfl, _, _⟩ := k53_openF hK4
      have y1 : w4.cell? ⟨(adq.add (k * 2)).block, (adq.add (k * 2)).off + 1, none⟩ = some (.slice A5 (l.getD k ⟨0, []⟩).f1.length c5) := by rw [HA2.out]; exact hcc4 1 _ rfl
      have z1 : w4.frozen? ⟨(adq.add (k * 2)).block, (adq.add (k * 2)).off + 1, none⟩ = false := by rw [HA2.out]; exact hfz4 1
      have HXG : Hid (l.getD k ⟨0, []⟩ = x) := by show _ = _; rw [List.getD_eq_getElem?_getD, List.getElem?_eq_getElem hlt, HX.out]; rfl
      have HSEG := Lib.hid (Kd.N_seg HN4.out (k : Int) (by omega) (by omega) (seg := [.slice A4 x.f1.length c4]) (j := 1) hcl4 (by rw [Int.toNat_natCast]; exact hcc4) (by show 1 + 1 ≤ 2; decide) (x' := x) (okp := fun j => wr.heap.size ≤ j)
        (by rw [HXG.out]; exact k53_mkF w4 _ x (Kd.R_reads' HV4.out).2.1 (Kd.R_F HV4.out)) (fun j hj => ⟨HFR.out j (Nat.le_trans HW.out.size hj), fun e => by have := HQ.out.2; omega⟩))
      clear hK4 hcc4 hfz4 hcl4
      have hw5 : w4.setCell ⟨(adq.add (k * 2)).block, (adq.add (k * 2)).off + 1, none⟩ (.slice A4 x.f1.length c4) = w4.setCells q ((k : Int).toNat * 2 + 1) [.slice A4 x.f1.length c4] := by rw [HA2.out, Int.toNat_natCast]; rfl
      have HW5 := Lib.hid hw5
      clear hw5
      go_wp2_with fail
      go_roundw
      case rel =>
        have h1 : Hid (ON (w4.setCell ⟨(adq.add (k * 2)).block, (adq.add (k * 2)).off + 1, none⟩ (.slice A4 x.f1.length c4)) w.heap.size ok (.slice (some adq) l.length cv) l) := by
          show ON _ _ _ _ _
          rw [HW5.out, HADQ.out]
          have := HSEG.out.1
          rw [Int.toNat_natCast, show l.set k x = l from by rw [HX.out]; exact List.set_getElem_self ..] at this
          exact this
        have h2 : Hid (Below w.heap.size w (w4.setCell ⟨(adq.add (k * 2)).block, (adq.add (k * 2)).off + 1, none⟩ (.slice A4 x.f1.length c4))) := by
          show Below _ _ _
          rw [HW5.out]
          exact o_below_grown (HW.out.trans (HB4.out.mono HW.out.size)) HSEG.out.2 (fun j hj => by injection hj with hj; rw [← hj]; exact HQ.out.1)
        first
          | exact ⟨k + 1, by omega, by go_num, h1, h2⟩
          | ((repeat apply Exists.intro); exact ⟨⟨k + 1, by omega, by go_num, h1, h2⟩, rfl⟩)
      case measure => simp [intOf]; omega
    · have p2 : ((k : Int) < (l.length : Int)) = False := eq_false (by omega)
      go_wp2_with fail
      go_ret
      exact ⟨_, rfl, HN.out, HW.out⟩
theorem owned_calls (A : Option Addr) (c : Nat) (l : List OptF) (w : World) (hF : Kd.F k53 w (fun k => k < w.heap.size) A l.length l) (hc : l.length ≤ c) (hl : l.length ≤ 1000000) (hd : ∀ x ∈ l, x.f1.length < 140737488355328) :
    Calls Tryd.prog 16 #[.slice A l.length c] w fun e w' => ∃ v, e = .returned v ∧ ON w' w.heap.size (fun _ => True) v l ∧ Below w.heap.size w w' :=
  owned_ok (fun _ => True) A c l w (Kd.F_mono hF (fun _ _ => trivial)) (fun _ _ => trivial) hc hl hd
end Go.Proofs.YtdpoknfidlekbaaDoor
end

section
namespace Go.Proofs.YtdpoknfidlekbaaDoor
open Go.RowKit Go.Proofs.YtdpoknfidlekbaaDoor.Pr Go.Proofs.YtdpoknfidlekbaaDoorW.PrintWords Go.Proofs.YtdpoknfidlekbaaDoorW.PrintLast Go.Proofs.YtdpoknfidlekbaaDoorW.PrintMore
attribute [local go_sem] max2_int min2_int max_two min_two max_three min_three max_four min_four
set_option linter.unusedVariables false
set_option linter.unusedSimpArgs false

/-- All but the blocks of S is as it was. -/
structure OFr (w W : World) (S : Nat → Prop) : Prop where
  os : W.os = w.os
  tape : W.tape = w.tape
  output : W.output = w.output
  size : w.heap.size ≤ W.heap.size
  block : ∀ k, k < w.heap.size → ¬ S k → W.heap[k]? = w.heap[k]?
theorem OFr.refl (w : World) (S : Nat → Prop) : OFr w w S := ⟨rfl, rfl, rfl, Nat.le_refl _, fun _ _ _ => rfl⟩
theorem OFr.below {w W W2 : World} {S : Nat → Prop} (h : OFr w W S) (hb : Below W.heap.size W W2) : OFr w W2 S := ⟨hb.os.trans h.os, hb.tape.trans h.tape, hb.output.trans h.output, Nat.le_trans h.size hb.size, fun k hk hn => (hb.block k (Nat.lt_of_lt_of_le hk h.size)).trans (h.block k hk hn)⟩
theorem OFr.cells {w W : World} {S : Nat → Prop} (h : OFr w W S) {q : Nat} (hq : S q) (o : Nat) (vs : List Value) : OFr w (W.setCells q o vs) S := by
  obtain ⟨h1, h2, h3, h4⟩ := setCells_same q vs o W
  exact ⟨h1.trans h.os, h2.trans h.tape, h3.trans h.output, by rw [h4]; exact h.size, fun k hk hn => (setCells_far vs o k (fun e => hn (e ▸ hq))).trans (h.block k hk hn)⟩
theorem OFr.to_below {w W : World} {S : Nat → Prop} {B : Nat} (h : OFr w W S) (hB : B ≤ w.heap.size) (hS : ∀ k, S k → B ≤ k) : Below B w W :=
  ⟨h.os, h.tape, h.output, h.size, fun k hk => h.block k (by omega) (fun hs => by have := hS k hs; omega)⟩

theorem N_tail {α : Type} {d : Kd α} {e : Nat} {w : World} {base : Nat} {ok : Nat → Prop} {q n c o : Nat} {vs : List Value} {xs : List α} (h : Kd.N d e w base ok (.slice (some ⟨q, 0, none⟩) n c) xs) (ho : xs.length * d.sz ≤ o) (hl : o + vs.length ≤ c * d.sz) :
    Kd.N d e (w.setCells q o vs) base ok (.slice (some ⟨q, 0, none⟩) n c) xs := by
  obtain ⟨h0, rows, hr, hR, hf⟩ := h
  refine ⟨h0, rows, hr, ?_, fun j x cs hx hc => Kd.FK_step (hf j x cs hx hc) (fun k hk _ => setCells_far vs o k (fun e => hk.2 (by rw [e]; simp [Value.ownBlock])))⟩
  obtain ⟨ha, inner, ⟨hi, hown⟩, hrep⟩ := hR
  refine ⟨ha, inner, ⟨hi, ?_⟩, hrep⟩
  rcases hown with ⟨e1, _⟩ | ⟨g, cap, cur, e1, hb, hh, hn, hm, hs, ht⟩
  · cases e1
  · injection e1 with e1 e2 e3
    injection e1 with e1
    injection e1 with e1 _ _
    subst e1
    subst e2
    subst e3
    obtain ⟨cur', h1, h2, h3⟩ := setCells_row vs o w cur hh (by rw [hs]; exact hl)
    refine .inr ⟨q, c, cur', rfl, hb, h1, hn, hm, h2.trans hs, ?_⟩
    have hsz : (Kd.raw d.sz).sz = d.sz := rfl
    rw [hsz] at ht hs ⊢
    rw [hr] at ht ⊢
    have hcl : cur.toList.length = c * d.sz := by rw [Array.length_toList, hs]
    rw [← ht, h3, List.append_assoc, List.take_append_of_le_length (by rw [List.length_take, hcl]; omega), List.take_take, Nat.min_eq_left ho]
theorem N_cells {α : Type} {d : Kd α} {e : Nat} {w : World} {base : Nat} {ok : Nat → Prop} {q n c : Nat} {xs : List α} (h : Kd.N d e w base ok (.slice (some ⟨q, 0, none⟩) n c) xs) : ∃ cur, w.heap[q]? = some (.cells cur e (0, 0)) ∧ cur.size = c * d.sz ∧ n ≤ c ∧ n = xs.length := by
  obtain ⟨h0, rows, hr, ⟨ha, inner, ⟨hi, hown⟩, hrep⟩, hf⟩ := h
  rcases hown with ⟨e1, _⟩ | ⟨g, cap, cur, e1, hb, hh, hn, hm, hs, ht⟩
  · cases e1
  · injection e1 with e1 e2 e3
    injection e1 with e1
    injection e1 with e1 _ _
    subst e1
    subst e2
    subst e3
    exact ⟨cur, hh, hs, hn, hr⟩
def ozero (m : Nat) : List Value := (Builtin.zeroCells #[.int .i64 0, .slice none 0 0] m).toList
theorem ozero_len (m : Nat) : (ozero m).length = m * 2 := by simp [ozero, Builtin.zeroCells]
theorem ozero_one (m : Nat) : ∀ v ∈ ozero m, v.oneCell' = true := by
  intro v hv
  simp only [ozero, Builtin.zeroCells, Array.toList_map, List.mem_map] at hv
  obtain ⟨i, _, rfl⟩ := hv
  have : i % 2 = 0 ∨ i % 2 = 1 := by omega
  rcases this with h | h <;> simp [h] <;> rfl
theorem oclear_run (q n c i m : Nat) (w : World) (base : Nat) (ok : Nat → Prop) (ys : List OptF) (h : ON w base ok (.slice (some ⟨q, 0, none⟩) n c) ys) (hm : n = i + (m + 1)) (ty : TypeId) :
    (Builtin.clear_ #[25] ty #[.slice (some ⟨q, i * 2, none⟩) (m + 1) (c - i)]).run Tryd.prog w = .ok (.tuple #[]) (w.setCells q (i * 2) (ozero (m + 1))) := by
  obtain ⟨i0, hinf, hzz⟩ := Option.map_eq_some_iff.1 oinfo
  simp only [Prod.mk.injEq] at hzz
  obtain ⟨hz0, hsz, _⟩ := hzz
  obtain ⟨cur, hc, hs, hn, _⟩ := N_cells h
  have h1 : ∀ j, j < (ozero (m + 1)).length → (w.cell? ⟨q, i * 2 + 0 + j, none⟩).isSome = true := fun j hj => by
    rw [ozero_len] at hj
    obtain ⟨p, hp⟩ : ∃ p, p = i * 2 + 0 + j := ⟨_, rfl⟩
    rw [← hp, blk_cell hc p]
    have : p < cur.size := by rw [hs]; show p < c * 2; omega
    simp [this]
  have h2 : ∀ j, j < (ozero (m + 1)).length → w.frozen? ⟨q, i * 2 + 0 + j, none⟩ = false := fun j hj => blk_frozen hc _
  have h3 := run_storeCells_cells (P := Tryd.prog) q (i * 2) (ozero (m + 1)) 0 w h1 h2 (ozero_one _)
  simp [Builtin.clear_, run_underlying Tryd.underlying25, zeroValue, typeInfo, hinf, hz0, Result.andThen]
  rw [show (Builtin.zeroCells (Value.agg #[.int .i64 0, .slice none 0 0]).cells (m + 1)).toList = ozero (m + 1) from rfl, h3]
  rfl

set_option maxHeartbeats 1000000 in
theorem filter_step {p : OptF → Bool} {l ys : List OptF} {i j n : Nat} (hn : ys.length = n) (hl : l.length = n) (hj : j < n) (hij : i ≤ j) (h1 : ys.take i = (l.take j).filter (fun x => !p x)) (h2 : ys.drop j = l.drop j) :
    ys[j]'(by omega) = l[j]'(by omega) ∧ (p (l[j]'(by omega)) = true → ys.take i = (l.take (j + 1)).filter (fun x => !p x) ∧ ys.drop (j + 1) = l.drop (j + 1)) ∧
      (p (l[j]'(by omega)) = false → (ys.set i (l[j]'(by omega))).take (i + 1) = (l.take (j + 1)).filter (fun x => !p x) ∧ (ys.set i (l[j]'(by omega))).drop (j + 1) = l.drop (j + 1)) := by
  have d1 := List.drop_eq_getElem_cons (l := ys) (i := j) (by omega)
  have d2 := List.drop_eq_getElem_cons (l := l) (i := j) (by omega)
  rw [h2, d2] at d1
  injection d1 with e1 e2
  refine ⟨e1.symm, fun hp => ⟨?_, e2.symm⟩, fun hp => ⟨?_, ?_⟩⟩
  · rw [h1, List.take_succ_eq_append_getElem (by omega), List.filter_append]
    simp [hp]
  · rw [List.take_succ_eq_append_getElem (by rw [List.length_set]; omega), List.take_set_of_le (by omega), h1, List.getElem_set_self, List.take_succ_eq_append_getElem (by omega), List.filter_append]
    simp [hp]
  · rw [List.drop_set_of_lt (by omega)]; exact e2.symm
theorem filter_start {p : OptF → Bool} {l : List OptF} {k : Nat} (hk : k < l.length) (h0 : ∀ x ∈ l.take k, p x = false) (h1 : p l[k] = true) : l.take k = (l.take (k + 1)).filter (fun x => !p x) := by
  rw [List.take_succ_eq_append_getElem hk, List.filter_append, List.filter_eq_self.2 (fun x hx => by rw [h0 x hx]; rfl)]
  simp [h1]
theorem ix_split (p : OptF → Bool) (l : List OptF) : (ixOf p l = -1 ∧ l.filter (fun x => !p x) = l) ∨ ∃ (k : Nat) (hk : k < l.length), ixOf p l = k ∧ l.take k = (l.take (k + 1)).filter (fun x => !p x) := by
  unfold ixOf
  by_cases h : l.findIdx p < l.length
  · rw [if_pos h]
    refine .inr ⟨_, h, rfl, filter_start h (fun x hx => ?_) (List.findIdx_getElem (w := h))⟩
    obtain ⟨j, hj, rfl⟩ := List.mem_iff_getElem.1 hx
    rw [List.length_take] at hj
    rw [List.getElem_take]
    simpa using List.not_of_lt_findIdx (by omega : j < l.findIdx p)
  · rw [if_neg h]
    refine .inl ⟨rfl, List.filter_eq_self.2 (fun x hx => ?_)⟩
    have h2 : ∀ x ∈ l, p x = false := List.findIdx_eq_length.1 (by have := List.findIdx_le_length (p := p) (xs := l); omega)
    rw [h2 x hx]; rfl

theorem OFr.own {w W : World} {q : Nat} {v : Value} (h : OFr w W (fun k => k = q)) (hv : v.ownBlock = some q) : OFr w W (fun k => v.ownBlock = some k) := ⟨h.os, h.tape, h.output, h.size, fun k hk hn => h.block k hk (fun e => hn (by rw [e]; exact hv))⟩
theorem fr_of_below {w W : World} (h : Below w.heap.size w W) (S : Nat → Prop) : OFr w W S := (OFr.refl w S).below h
set_option maxHeartbeats 4000000 in
set_option maxRecDepth 100000 in
theorem del_ok (ok : Nat → Prop) (p : OptF → Bool) (gf : Nat) (lb : Array Value) (eg : ∀ args w, (callFunc gf args).run Tryd.prog w = .ok (.enter gf args) w) (v : Value) (l : List OptF) (w : World) (base : Nat) (hN : ON w base ok v l) (hl : l.length ≤ 1000000)
    (hcl : ∀ (x : OptF) (A1 : Option Addr) (c1 : Nat) (W : World), OFr w W (fun k => v.ownBlock = some k) → Calls Tryd.prog gf (#[.agg #[.int .i64 x.f0, .slice A1 x.f1.length c1]] ++ lb) W fun e W' => e = .returned (.bool (p x)) ∧ Below W.heap.size W W') :
    Calls Tryd.prog 21 #[v, .func (.func gf) #[] lb] w fun e w' => ∃ v', e = .returned v' ∧ ON w' base ok v' (l.filter (fun x => !p x)) ∧ OFr w w' (fun k => v.ownBlock = some k) := by
  obtain ⟨A, c, rfl⟩ := Kd.N_slice hN
  obtain ⟨_, hc, hC⟩ := Kd.N_reads' hN
  have HIX := Lib.hid (ix_calls p gf lb eg A c l w hC hc (fun k hk A1 c1 W hW => hcl l[k] A1 c1 W (fr_of_below hW _)))
  have HN := Lib.hid hN
  have HE := Lib.hid eg
  have HCL := Lib.hid hcl
  clear hN hC eg hcl
  rcases ix_split p l with ⟨hix, hfl⟩ | ⟨k0, hk0, hix, hst⟩
  · have HF := Lib.hid hfl
    rw [hix] at HIX
    clear hix hfl
    go_enter Tryd.func21, Tryd.ntmps21
    go_wp2_with fail
    refine HIX.out.mono ?_
    rintro e w1 ⟨rfl, hb⟩
    have HB := Lib.hid hb
    clear hb
    go_wp2_with fail
    go_ret
    exact ⟨_, rfl, by rw [HF.out]; exact Kd.N_below HN.out HB.out, fr_of_below HB.out _⟩
  · obtain ⟨q, cap, he, hq1, hq2, _⟩ := Kd.N_form HN.out (by omega)
    injection he with e1 _ e3
    subst e3
    have HN0 := Lib.hid HN.out
    rw [e1] at HN0
    rw [hix] at HIX
    have HST := Lib.hid hst
    obtain ⟨adq, hadq⟩ : ∃ a, a = (⟨q, 0, none⟩ : Addr) := ⟨_, rfl⟩
    rw [← hadq] at e1
    subst e1
    have HADQ := Lib.hid hadq
    have HQ : Hid (base ≤ q ∧ q < w.heap.size) := ⟨hq1, hq2⟩
    have HOW : Hid ((Value.slice (some adq) l.length c).ownBlock = some q) := by show _ = _; rw [hadq]; simp [Value.ownBlock]
    have hadd : ∀ i : Nat, adq.add (i * 2) = ⟨q, i * 2, none⟩ := fun i => by rw [hadq, add_at, Nat.zero_add]
    have HADD := Lib.hid hadd
    clear hst hix hadq hq1 hq2 HN hadd
    go_enter Tryd.func21, Tryd.ntmps21
    go_wp2_with fail
    refine HIX.out.mono ?_
    rintro e w1 ⟨rfl, hb⟩
    have HB := Lib.hid hb
    clear hb HIX
    have p0 : ((k0 : Int) == -1) = false := beq_eq_false_iff_ne.2 (by omega)
    have p1 : ((k0 : Int) = -1) = False := eq_false (by omega)
    go_wp2_with fail
    go_loopw [5, 6] (fun vi vj wr => ∃ (i j : Nat) (ys : List OptF), vi = .int .i64 i ∧ vj = .int .i64 j ∧ i < j ∧ j ≤ l.length ∧ Hid (ON wr base ok (.slice (some ⟨q, 0, none⟩) l.length c) ys) ∧ Hid (ys.length = l.length ∧ ys.take i = (l.take j).filter (fun x => !p x) ∧ ys.drop j = l.drop j) ∧ Hid (OFr w wr (fun k => k = q))) (fun _ vj _ => l.length - (intOf vj).toNat)
    case atStart => exact ⟨k0, k0 + 1, l, rfl, by go_num, by omega, by omega, Kd.N_below HN0.out HB.out, ⟨rfl, HST.out, rfl⟩, fr_of_below HB.out _⟩
    case round =>
      clear HB p0 p1 HN0
      obtain ⟨i, j, ys, rfl, rfl, hij, hj, HN, HYS, HW⟩ := hrel
      by_cases hlt : j < l.length
      · obtain ⟨f1, f2, f3⟩ := filter_step HYS.out.1 rfl hlt (by omega) HYS.out.2.1 HYS.out.2.2
        obtain ⟨x, hx⟩ : ∃ x, x = l[j] := ⟨_, rfl⟩
        rw [← hx] at f1 f2 f3
        have HYL : Hid (ys.length = l.length) := HYS.out.1
        have F2 := Lib.hid f2
        have F3 := Lib.hid f3
        obtain ⟨cs, hcs, hK, hcc, _⟩ := Kd.N_elem HN.out ⟨0, []⟩ (j : Int) (by omega) (by omega)
        rw [Int.toNat_natCast] at hK hcc
        rw [show ys.getD j ⟨0, []⟩ = x from by rw [List.getD_eq_getElem?_getD, List.getElem?_eq_getElem (by rw [HYL.out]; omega)]; exact f1] at hK
        obtain ⟨A1, c1, rfl, hl1, _⟩ := k53_openF hK
        have HK := Lib.hid hK
        have y0 : wr.cell? (adq.add (j * 2)) = some (.int .i64 x.f0) := by rw [HADD.out]; exact hcc 0 _ rfl
        have y1 : wr.cell? ⟨(adq.add (j * 2)).block, (adq.add (j * 2)).off + 1, none⟩ = some (.slice A1 x.f1.length c1) := by rw [HADD.out]; exact hcc 1 _ rfl
        obtain ⟨bx, hbx⟩ : ∃ b, wr.heap.size = b := ⟨_, rfl⟩
        obtain ⟨Wa, hWa⟩ : ∃ W, wr.alloc (.cells #[.int .i64 x.f0, .slice A1 x.f1.length c1] 53) = W := ⟨_, rfl⟩
        have HWA : Hid (Below wr.heap.size wr Wa) := by show Below _ _ _; rw [← hWa]; exact below_alloc (Below.refl _ _) _
        have HBX : Hid (Boxed2 Wa bx x.f0 (.slice A1 x.f1.length c1)) := by show _ = _; rw [← hWa, ← hbx]; exact blk_new _ _
        have HCW := Lib.hid (HCL.out x A1 c1 Wa ((HW.out.below HWA.out).own HOW.out))
        have p1 : (0 ≤ (j : Int)) = True := eq_true (by omega)
        have p2 : ((j : Int) < (l.length : Int)) = True := eq_true (by omega)
        clear hK hcc hcs f1 f2 f3 hx HYS
        go_upto_region 8 with fail
        clear y0 y1
        have e0 : Wa.cell? ⟨bx, 0, none⟩ = some (.int .i64 x.f0) := (blk_cell HBX.out 0).trans rfl
        have e1 : Wa.cell? ⟨bx, 1, none⟩ = some (.slice A1 x.f1.length c1) := (blk_cell HBX.out 1).trans rfl
        clear hWa hbx
        cases hp : p x with
        | true =>
          rw [hp] at HCW
          have G2 := Lib.hid (F2.out hp)
          clear hp
          go_wp2_with (first
            | (with_reducible refine goesv1 (oi := ⟨some 28, _, _, _, _, _⟩) (some 28) rfl rfl (.tmp 26) (.tmp 27) #[53] rfl rfl rfl HE.out ?_)
            | fail)
          refine HCW.out.mono ?_
          rintro e W1 ⟨rfl, hb1⟩
          refine ⟨_, rfl, ?_⟩
          have HN1 := Lib.hid (Kd.N_below (Kd.N_below HN.out HWA.out) hb1)
          have HW1 := Lib.hid ((HW.out.below HWA.out).below hb1)
          clear hb1 HCW e0 e1
          go_wp2_with fail
          go_roundw
          case rel =>
            first
              | exact ⟨i, j + 1, ys, rfl, by go_num, by omega, by omega, HN1, ⟨HYL.out, G2.out⟩, HW1⟩
              | ((repeat apply Exists.intro); exact ⟨⟨i, j + 1, ys, rfl, by go_num, by omega, by omega, HN1, ⟨HYL.out, G2.out⟩, HW1⟩, rfl⟩)
          case measure => simp [intOf]; omega
        | false =>
          rw [hp] at HCW
          have G3 := Lib.hid (F3.out hp)
          clear hp
          go_wp2_with (first
            | (with_reducible refine goesv1 (oi := ⟨some 28, _, _, _, _, _⟩) (some 28) rfl rfl (.tmp 26) (.tmp 27) #[53] rfl rfl rfl HE.out ?_)
            | fail)
          refine HCW.out.mono ?_
          rintro e W1 ⟨rfl, hb1⟩
          refine ⟨_, rfl, ?_⟩
          have HN1 := Lib.hid (Kd.N_below (Kd.N_below HN.out HWA.out) hb1)
          have HW1 := Lib.hid ((HW.out.below HWA.out).below hb1)
          have HK1 := Lib.hid (Kd.FK_below (Kd.FK_below HK.out HWA.out) hb1)
          have HBX1 : Hid (Boxed2 W1 bx x.f0 (.slice A1 x.f1.length c1)) := (hb1.block bx (blk_lt HBX.out)).trans HBX.out
          clear hb1 HCW e0 e1
          obtain ⟨ci, hci, hKi, hcci, hfzi⟩ := Kd.N_elem HN1.out ⟨0, []⟩ (i : Int) (by omega) (by omega)
          rw [Int.toNat_natCast] at hKi hcci hfzi
          obtain ⟨Ai, cci, rfl, _, _⟩ := k53_openF hKi
          have e0 : W1.cell? ⟨bx, 0, none⟩ = some (.int .i64 x.f0) := (blk_cell HBX1.out 0).trans rfl
          have e1 : W1.cell? ⟨bx, 1, none⟩ = some (.slice A1 x.f1.length c1) := (blk_cell HBX1.out 1).trans rfl
          have y0 : W1.cell? (adq.add (i * 2)) = some (.int .i64 (ys.getD i ⟨0, []⟩).f0) := by rw [HADD.out]; exact hcci 0 _ rfl
          have y1 : W1.cell? ⟨(adq.add (i * 2)).block, (adq.add (i * 2)).off + 1, none⟩ = some (.slice Ai (ys.getD i ⟨0, []⟩).f1.length cci) := by rw [HADD.out]; exact hcci 1 _ rfl
          have z0 : W1.frozen? (adq.add (i * 2)) = false := by rw [HADD.out]; exact hfzi 0
          have z1 : W1.frozen? ⟨(adq.add (i * 2)).block, (adq.add (i * 2)).off + 1, none⟩ = false := by rw [HADD.out]; exact hfzi 1
          obtain ⟨cur1, hcur1, -⟩ := N_cells HN1.out
          have y2 : ∀ u, (W1.setCell (adq.add (i * 2)) u).cell? ⟨(adq.add (i * 2)).block, (adq.add (i * 2)).off + 1, none⟩ = some (.slice Ai (ys.getD i ⟨0, []⟩).f1.length cci) := fun u => by
            rw [HADD.out]
            refine (blk_cell (blk_set hcur1 (i * 2) u) (i * 2 + 1)).trans ?_
            rw [Array.getElem?_setIfInBounds_ne (by omega)]
            exact (blk_cell hcur1 (i * 2 + 1)).symm.trans (hcci 1 _ rfl)
          have z2 : ∀ u, (W1.setCell (adq.add (i * 2)) u).frozen? ⟨(adq.add (i * 2)).block, (adq.add (i * 2)).off + 1, none⟩ = false := fun u => by
            rw [HADD.out]
            exact blk_frozen (blk_set hcur1 (i * 2) u) (i * 2 + 1)
          have p3 : (0 ≤ (i : Int)) = True := eq_true (by omega)
          have p4 : ((i : Int) < (l.length : Int)) = True := eq_true (by omega)
          have HSEG := Lib.hid (Kd.N_seg HN1.out (i : Int) (by omega) (by omega) (seg := [.int .i64 x.f0, .slice A1 x.f1.length c1]) (j := 0) hci (by rw [Int.toNat_natCast]; exact hcci) (by show 0 + 2 ≤ 2; decide) (x' := x) (okp := fun k => ok k ∧ k ≠ q) HK1.out (fun k hk => hk))
          clear hKi hcci hfzi hci hcur1
          go_wp2_with fail
          go_roundw
          case rel =>
            have hw5 : (W1.setCell (adq.add (i * 2)) (.int .i64 x.f0)).setCell ⟨(adq.add (i * 2)).block, (adq.add (i * 2)).off + 1, none⟩ (.slice A1 x.f1.length c1) = W1.setCells q ((i : Int).toNat * 2 + 0) [.int .i64 x.f0, .slice A1 x.f1.length c1] := by rw [HADD.out, Int.toNat_natCast]; rfl
            have h1 : Hid (ON ((W1.setCell (adq.add (i * 2)) (.int .i64 x.f0)).setCell ⟨(adq.add (i * 2)).block, (adq.add (i * 2)).off + 1, none⟩ (.slice A1 x.f1.length c1)) base ok (.slice (some ⟨q, 0, none⟩) l.length c) (ys.set i x)) := by
              show ON _ _ _ _ _
              rw [hw5]
              exact HSEG.out.1
            have h2 : Hid (OFr w ((W1.setCell (adq.add (i * 2)) (.int .i64 x.f0)).setCell ⟨(adq.add (i * 2)).block, (adq.add (i * 2)).off + 1, none⟩ (.slice A1 x.f1.length c1)) (fun k => k = q)) := by
              show OFr _ _ _
              rw [hw5]
              exact HW1.out.cells rfl _ _
            first
              | exact ⟨i + 1, j + 1, ys.set i x, by go_num, by go_num, by omega, by omega, h1, ⟨by rw [List.length_set]; exact HYL.out, G3.out⟩, h2⟩
              | ((repeat apply Exists.intro); exact ⟨⟨i + 1, j + 1, ys.set i x, by go_num, by go_num, by omega, by omega, h1, ⟨by rw [List.length_set]; exact HYL.out, G3.out⟩, h2⟩, rfl⟩)
          case measure => simp [intOf]; omega
      · obtain rfl : j = l.length := by omega
        have p2 : ((l.length : Int) < (l.length : Int)) = False := eq_false (by omega)
        obtain ⟨i0, hinf, hzz⟩ := Option.map_eq_some_iff.1 oinfo
        simp only [Prod.mk.injEq] at hzz
        obtain ⟨m, hm⟩ : ∃ m, l.length = i + (m + 1) := ⟨l.length - i - 1, by omega⟩
        obtain ⟨cur, -, -, hn, -⟩ := N_cells HN.out
        have r1 := cut_from (P := Tryd.prog) 25 53 .i64 Tryd.underlying25 hinf 2 hzz.2.1 (some adq) l.length c (i : Int) (by omega) (by omega)
        rw [Int.toNat_natCast, if_neg (by omega), show l.length - i = m + 1 from by omega, Option.map_some] at r1
        have r2 := cut_to (P := Tryd.prog) 25 53 .i64 Tryd.underlying25 hinf (some adq) l.length c (i : Int) (by omega) (by omega) hn
        rw [Int.toNat_natCast] at r2
        obtain ⟨Wc, hWc⟩ : ∃ W, wr.setCells q (i * 2) (ozero (m + 1)) = W := ⟨_, rfl⟩
        have r3 : ∀ ty, (Builtin.clear_ #[25] ty #[.slice (some (adq.add (i * 2))) (m + 1) (c - i)]).run Tryd.prog wr = .ok (.tuple #[]) Wc := fun ty => by rw [HADD.out, ← hWc]; exact oclear_run q l.length c i m wr base _ ys HN.out hm ty
        have HT : Hid (ON Wc base ok (.slice (some ⟨q, 0, none⟩) i c) (l.filter (fun x => !p x))) := by
          show ON _ _ _ _ _
          have h1 := Kd.N_take HN.out (m := i) (by rw [HYS.out.1]; omega)
          rw [HYS.out.2.1, List.take_length] at h1
          have h3 : (l.filter (fun x => !p x)).length = i := by
            have := HYS.out.2.1
            rw [List.take_length] at this
            rw [← this, List.length_take, HYS.out.1]; omega
          rw [← hWc]
          exact N_tail h1 (by rw [h3]; exact Nat.le_refl _) (by rw [ozero_len]; show i * 2 + (m + 1) * 2 ≤ c * 2; omega)
        have HFR : Hid (OFr w Wc (fun k => k = q)) := by
          show OFr _ _ _
          rw [← hWc]
          exact HW.out.cells rfl _ _
        have p3 : (0 ≤ (i : Int)) = True := eq_true (by omega)
        clear hWc hinf hzz hm hn HYS HN HW
        go_wp2_with fail
        go_ret
        exact ⟨_, rfl, by rw [HADQ.out]; exact HT.out, HFR.out.own HOW.out⟩
theorem del_calls (p : OptF → Bool) (gf : Nat) (lb : Array Value) (eg : ∀ args w, (callFunc gf args).run Tryd.prog w = .ok (.enter gf args) w) (v : Value) (l : List OptF) (w : World) (base : Nat) (hN : ON w base (fun _ => True) v l) (hl : l.length ≤ 1000000)
    (hcl : ∀ (x : OptF) (A1 : Option Addr) (c1 : Nat) (W : World), OFr w W (fun k => v.ownBlock = some k) → Calls Tryd.prog gf (#[.agg #[.int .i64 x.f0, .slice A1 x.f1.length c1]] ++ lb) W fun e W' => e = .returned (.bool (p x)) ∧ Below W.heap.size W W') :
    Calls Tryd.prog 21 #[v, .func (.func gf) #[] lb] w fun e w' => ∃ v', e = .returned v' ∧ ON w' base (fun _ => True) v' (l.filter (fun x => !p x)) ∧ OFr w w' (fun k => v.ownBlock = some k) :=
  del_ok (fun _ => True) p gf lb eg v l w base hN hl hcl
end Go.Proofs.YtdpoknfidlekbaaDoor
end

section
namespace Go.Proofs.YtdpoknfidlekbaaDoor
open Go.RowKit Go.Proofs.YtdpoknfidlekbaaDoor.Pr Go.Proofs.YtdpoknfidlekbaaDoorW.PrintWords Go.Proofs.YtdpoknfidlekbaaDoorW.PrintLast Go.Proofs.YtdpoknfidlekbaaDoorW.PrintMore
attribute [local go_sem] max2_int min2_int max_two min_two max_three min_three max_four min_four
set_option linter.unusedVariables false
set_option linter.unusedSimpArgs false

set_option maxHeartbeats 2000000 in
set_option maxRecDepth 100000 in
theorem grow_ok (ok : Nat → Prop) (n : Nat) (w : World) (hfr : ∀ k, w.heap.size ≤ k → ok k) (h0 : 0 < n) (hn : n ≤ 2000000) :
    Calls Tryd.prog 31 #[.slice none 0 0, .int .i64 (n : Int)] w fun e w' => ∃ v, e = .returned v ∧ ON w' w.heap.size ok v [] ∧ Below w.heap.size w w' := by
  obtain ⟨i0, hinf, hzz⟩ := Option.map_eq_some_iff.1 oinfo
  simp only [Prod.mk.injEq] at hzz
  have r0 := cut_to (P := Tryd.prog) 25 53 .i64 Tryd.underlying25 hinf none 0 0 0 (by omega) (by omega) (by omega)
  have r1 := fun (A : Option Addr) (m c : Nat) (hc : m ≤ c) => cut_to (P := Tryd.prog) 25 53 .i64 Tryd.underlying25 hinf A m c 0 (by omega) (by omega) hc
  have R1 := Lib.hid r1
  have p1 : ((n : Int) < 0) = False := eq_false (by omega)
  have p2 : (0 < (n : Int)) = True := eq_true (by omega)
  have p4 : (0 ≤ (n : Int)) = True := eq_true (by omega)
  have HW := Lib.hid (Below.refl w.heap.size w)
  have HNN := Lib.hid hn
  have HFR := Lib.hid hfr
  clear hzz hinf r1 hfr
  go_enter Tryd.func31, Tryd.ntmps31
  go_wp2_with (first
    | ((with_reducible refine gate_builtin (b := .append) (xs := #[.tmp 20, .tmp 21]) rfl ?_); (try (refine gate_guard (by rfl) ?_; dsimp only)); at_builtin; refine Kd.N_append_zeros k53 (w0 := w) w.heap.size rfl (.tmp 20) (.tmp 21) 25 3 53 (.agg #[.int .i64 0, .slice none 0 0]) 32 rfl Tryd.underlying25 Tryd.underlying3 oinfo rfl (by decide) (by decide) (.slice none 0 0) [] (⟨0, []⟩ : OptF) (n : Int) ok rfl rfl (k53_mkF _ _ ⟨0, []⟩ (Nat.le_refl _) (Kd.F_nil _ _ _)) (fun k hk => HFR.out k hk) (Kd.N_nil _ _ _ _ _) (by omega) HW.out HW.out.size (by have := HNN.out; simp; omega) ?_; intro v1 w1 hn1 hb1 _ _; obtain ⟨A1, c1, rfl⟩ := Kd.N_slice hn1; have HN1 := Lib.hid hn1; have HB1 := Lib.hid hb1; have r2 := R1.out A1 _ c1 (Kd.N_reads' hn1).2.1; clear hn1 hb1)
    | fail)
  go_ret
  exact ⟨_, rfl, Kd.N_take HN1.out (m := 0) (Nat.zero_le _), HB1.out⟩

theorem flat_take {ls : List (List OptF)} {k : Nat} (h : k < ls.length) : (ls.take (k + 1)).flatten = (ls.take k).flatten ++ ls[k] := by
  rw [List.take_succ_eq_append_getElem h, List.flatten_append]
  simp
theorem flat_le (ls : List (List OptF)) (k : Nat) : ((ls.take k).flatten).length ≤ ls.flatten.length := by
  have : ls.flatten = (ls.take k).flatten ++ (ls.drop k).flatten := by rw [← List.flatten_append, List.take_append_drop]
  rw [this, List.length_append]; omega
set_option maxHeartbeats 4000000 in
set_option maxRecDepth 100000 in
theorem concat_ok (ok : Nat → Prop) (A : Option Addr) (c : Nat) (ls : List (List OptF)) (w : World) (hF : Kd.F (Kd.slice 53 k53) w ok A ls.length ls) (hfr : ∀ k, w.heap.size ≤ k → ok k) (hc : ls.length ≤ c) (h0 : 0 < ls.flatten.length) (hs : ls.flatten.length ≤ 2000000) :
    Calls Tryd.prog 22 #[.slice A ls.length c] w fun e w' => ∃ v, e = .returned v ∧ ON w' w.heap.size ok v ls.flatten ∧ Below w.heap.size w w' := by
  have hll : ls.length ≤ 9223372036854775807 := Kd.F_max hF
  have HF := Lib.hid (Kd.F_bound hF)
  have HFR := Lib.hid hfr
  have HS := Lib.hid hs
  clear hF hs hfr
  go_enter Tryd.func22, Tryd.ntmps22
  go_wp2_with fail
  go_loop [3, 11] (fun s i => ∃ k : Nat, k ≤ ls.length ∧ i = .int .i64 k ∧ s = .int .i64 (((ls.take k).flatten.length : Nat) : Int)) (fun _ i => ls.length - (intOf i).toNat)
  case atStart => exact ⟨0, Nat.zero_le _, rfl, by simp⟩
  case round =>
    obtain ⟨k, hk, rfl, rfl⟩ := hrel
    by_cases hlt : k < ls.length
    · obtain ⟨ad, cs, rfl, hcs, hK, hcc, _⟩ := Kd.F_get HF.out [] (k : Int) (by omega) (by omega)
      rw [Int.toNat_natCast] at hK hcc
      obtain ⟨x, hx⟩ : ∃ x, x = ls[k] := ⟨_, rfl⟩
      rw [show ls.getD k [] = x from by rw [List.getD_eq_getElem?_getD, List.getElem?_eq_getElem hlt, hx]; rfl] at hK
      obtain ⟨Ai, ci, rfl, _, _⟩ := Kd.FK_slice_open hK
      have y0 : w.cell? (ad.add k) = some (.slice Ai x.length ci) := by have := hcc 0 _ rfl; rwa [show (Kd.slice 53 k53).sz = 1 from rfl, Nat.mul_one, Nat.add_zero] at this
      have hfl := flat_take hlt
      have hle := flat_le ls (k + 1)
      rw [hfl, ← hx, List.length_append] at hle
      have HFL := Lib.hid hfl
      have HX := Lib.hid hx
      have HLE := Lib.hid hle
      obtain ⟨n, hn⟩ : ∃ n, n = (ls.take k).flatten.length := ⟨_, rfl⟩
      rw [← hn] at HLE ⊢
      have HN := Lib.hid hn
      have hb1 : n + x.length ≤ 2000000 := Nat.le_trans HLE.out HS.out
      have p1 : (0 ≤ (k : Int)) = True := eq_true (by omega)
      have p2 : ((k : Int) < (ls.length : Int)) = True := eq_true (by omega)
      have p3 : IntKind.i64.wrap ((n : Int) + (x.length : Int)) = ((n + x.length : Nat) : Int) := by rw [IntKind.wrap_i64]; omega
      have p4 : (((n + x.length : Nat) : Int) < 0) = False := eq_false (by omega)
      have p5 : ((n : Int) + (x.length : Int) < 0) = False := eq_false (by omega)
      clear hK hcc hcs hx hfl hle hn
      go_wp2_with fail
      go_round
      case rel => exact ⟨k + 1, by omega, by go_num, by rw [HFL.out, List.length_append, ← HN.out, HX.out]; go_num⟩
      case measure => simp [intOf]; omega
    · obtain rfl : k = ls.length := by omega
      have p2 : ((ls.length : Int) < (ls.length : Int)) = False := eq_false (by omega)
      have e0 : Hid (ls.take ls.length = ls) := List.take_length ..
      obtain ⟨n, hn⟩ : ∃ n, n = (ls.take ls.length).flatten.length := ⟨_, rfl⟩
      rw [← hn]
      have HN : Hid (n = ls.flatten.length) := by show _ = _; rw [hn, e0.out]
      clear hn
      have GR := grow_ok ok n w HFR.out (by rw [HN.out]; exact h0) (by rw [HN.out]; exact HS.out)
      have HGR := Lib.hid GR
      clear GR h0
      go_wp2_with fail
      refine HGR.out.mono ?_
      rintro e w1 ⟨v1, rfl, hn1, hb1⟩
      have HN1 := Lib.hid hn1
      have HB1 := Lib.hid hb1
      clear hn1 hb1 HGR
      go_wp2_with fail
      go_loopw [6, 27] (fun v i wr => ∃ k : Nat, k ≤ ls.length ∧ i = .int .i64 k ∧ Hid (ON wr w.heap.size ok v (ls.take k).flatten) ∧ Hid (Below w.heap.size w wr)) (fun _ i _ => ls.length - (intOf i).toNat)
      case atStart => exact ⟨0, Nat.zero_le _, rfl, HN1, HB1⟩
      case round =>
        clear HN1 HB1
        obtain ⟨k, hk, rfl, HR, HW⟩ := hrel
        by_cases hlt : k < ls.length
        · obtain ⟨ad, cs, rfl, hcs, hK, hcc, _⟩ := Kd.F_get HF.out [] (k : Int) (by omega) (by omega)
          rw [Int.toNat_natCast] at hK hcc
          obtain ⟨x, hx⟩ : ∃ x, x = ls[k] := ⟨_, rfl⟩
          rw [show ls.getD k [] = x from by rw [List.getD_eq_getElem?_getD, List.getElem?_eq_getElem hlt, hx]; rfl] at hK
          obtain ⟨Ai, ci, rfl, hci, hFi⟩ := Kd.FK_slice_open hK
          have y0 : w.cell? (ad.add k) = some (.slice Ai x.length ci) := by have := hcc 0 _ rfl; rwa [show (Kd.slice 53 k53).sz = 1 from rfl, Nat.mul_one, Nat.add_zero] at this
          replace y0 := (HW.out.cell (World.block_lt_of_cell? w _ y0)).trans y0
          have hle := flat_le ls (k + 1)
          rw [flat_take hlt, ← hx, List.length_append] at hle
          have HLE := Lib.hid hle
          have HFL : Hid ((ls.take (k + 1)).flatten = (ls.take k).flatten ++ x) := by show _ = _; rw [flat_take hlt, hx]
          have HFI := Lib.hid hFi
          have p1 : (0 ≤ (k : Int)) = True := eq_true (by omega)
          have p2 : ((k : Int) < (ls.length : Int)) = True := eq_true (by omega)
          clear hK hcc hcs hx hle hFi
          go_wp2_with (first
            | ((with_reducible refine gate_builtin (b := .append) (xs := #[.tmp 31, .tmp 32]) rfl ?_); (try (refine gate_guard (by rfl) ?_; dsimp only)); at_builtin; refine Kd.N_append_rows k53 (w0 := w) w.heap.size rfl (.tmp 31) (.tmp 32) 25 53 (.agg #[.int .i64 0, .slice none 0 0]) 32 rfl Tryd.underlying25 oinfo rfl (by decide) (by decide) _ (ls.take k).flatten x _ _ _ ok (fun k => ok k ∧ k < w.heap.size) rfl rfl HR.out (Kd.F_below HFI.out HW.out) (fun j hj => ⟨hj.1, fun e => by have := Kd.N_base HR.out j e.symm; have := hj.2; omega⟩) (fun j hj => HFR.out j (Nat.le_trans HW.out.size hj)) HW.out HW.out.size (by have := HLE.out; have := HS.out; omega) ?_; intro v5 w5 ho5 hb5 hg5 hat5; rw [← HFL.out] at ho5; have HO5 := Lib.hid ho5; have HW5 := Lib.hid hb5; clear ho5 hg5 hat5 hb5)
            | fail)
          go_roundw
          case rel => exact ⟨k + 1, by omega, by go_num, HO5, HW5⟩
          case measure => simp [intOf]; omega
        · obtain rfl : k = ls.length := by omega
          have p2 : ((ls.length : Int) < (ls.length : Int)) = False := eq_false (by omega)
          rw [e0.out] at HR
          go_wp2_with fail
          go_ret
          exact ⟨_, rfl, HR.out, HW.out⟩
theorem concat_calls (A : Option Addr) (c : Nat) (ls : List (List OptF)) (w : World) (hF : Kd.F (Kd.slice 53 k53) w (fun k => k < w.heap.size) A ls.length ls) (hc : ls.length ≤ c) (h0 : 0 < ls.flatten.length) (hs : ls.flatten.length ≤ 2000000) :
    Calls Tryd.prog 22 #[.slice A ls.length c] w fun e w' => ∃ v, e = .returned v ∧ ON w' w.heap.size (fun _ => True) v ls.flatten ∧ Below w.heap.size w w' :=
  concat_ok (fun _ => True) A c ls w (Kd.F_mono hF (fun _ _ => trivial)) (fun _ _ => trivial) hc h0 hs
end Go.Proofs.YtdpoknfidlekbaaDoor
end

section
namespace Go.Proofs.YtdpoknfidlekbaaDoor
open Go.RowKit Go.Proofs.YtdpoknfidlekbaaDoor.Pr Go.Proofs.YtdpoknfidlekbaaDoorW.PrintWords Go.Proofs.YtdpoknfidlekbaaDoorW.PrintLast Go.Proofs.YtdpoknfidlekbaaDoorW.PrintMore
attribute [local go_sem] max2_int min2_int max_two min_two max_three min_three max_four min_four
set_option linter.unusedVariables false
set_option linter.unusedSimpArgs false

/-- One option in a box, as a row. -/
theorem F_one {w : World} {b : Nat} {code : Int} {data : List Int} {A : Option Addr} {c : Nat} {t : TypeId} {ok : Nat → Prop} (hb : w.heap[b]? = some (.cells #[.int .i64 code, .slice A data.length c] t (0, 0))) (hc : data.length ≤ c) (hF : Kd.F (Kd.int .u8) w ok A data.length data) :
    Kd.F k53 w (fun k => k = b ∨ ok k) (some ⟨b, 0, none⟩) 1 [(⟨code, data⟩ : OptF)] := by
  intro W hW
  have hb2 : W.heap[b]? = some (.cells #[.int .i64 code, .slice A data.length c] t (0, 0)) := (hW b (.inl rfl) (blk_lt hb)).trans hb
  refine ⟨rfl, by decide, fun _ => ⟨_, rfl, fun j p hj => ?_⟩⟩
  have hj1 : j < 1 := (List.getElem?_eq_some_iff.1 hj).1
  obtain rfl : j = 0 := by omega
  obtain rfl : (⟨code, data⟩ : OptF) = p := Option.some.inj hj
  refine ⟨[.int .i64 code, .slice A data.length c], rfl, k53_mk W ⟨code, data⟩ hc (hF W (fun k hk hlt => hW k (.inr hk) hlt)), fun i u hu => ?_⟩
  have hi2 : i < 2 := (List.getElem?_eq_some_iff.1 hu).1
  obtain rfl | rfl : i = 0 ∨ i = 1 := by omega
  · obtain rfl := Option.some.inj hu
    exact (blk_cell hb2 0).trans rfl
  · obtain rfl := Option.some.inj hu
    exact (blk_cell hb2 1).trans rfl
/-- Three rows of options, in a box, as a row. -/
theorem F_three {ok : Nat → Prop} {w : World} {h : Nat} {l0 l1 l2 : List OptF} {A0 A1 A2 : Option Addr} {c0 c1 c2 : Nat} {t : TypeId} (hb : w.heap[h]? = some (.cells #[.slice A0 l0.length c0, .slice A1 l1.length c1, .slice A2 l2.length c2] t (0, 0))) (n0 : l0.length ≤ c0) (n1 : l1.length ≤ c1) (n2 : l2.length ≤ c2)
    (hok : ok h) (h0 : Kd.F k53 w ok A0 l0.length l0) (h1 : Kd.F k53 w ok A1 l1.length l1) (h2 : Kd.F k53 w ok A2 l2.length l2) :
    Kd.F (Kd.slice 53 k53) w ok (some ⟨h, 0, none⟩) 3 [l0, l1, l2] := by
  intro W hW
  have hb2 := (hW h hok (blk_lt hb)).trans hb
  refine ⟨rfl, by decide, fun _ => ⟨_, rfl, fun j p hj => ?_⟩⟩
  have hj1 : j < 3 := (List.getElem?_eq_some_iff.1 hj).1
  obtain rfl | rfl | rfl : j = 0 ∨ j = 1 ∨ j = 2 := by omega
  · obtain rfl : l0 = p := Option.some.inj hj
    refine ⟨[.slice A0 l0.length c0], rfl, ⟨A0, c0, rfl, n0, h0 W hW⟩, fun i u hu => ?_⟩
    have hi : i < 1 := (List.getElem?_eq_some_iff.1 hu).1
    obtain rfl : i = 0 := by omega
    obtain rfl := Option.some.inj hu
    exact (blk_cell hb2 0).trans rfl
  · obtain rfl : l1 = p := Option.some.inj hj
    refine ⟨[.slice A1 l1.length c1], rfl, ⟨A1, c1, rfl, n1, h1 W hW⟩, fun i u hu => ?_⟩
    have hi : i < 1 := (List.getElem?_eq_some_iff.1 hu).1
    obtain rfl : i = 0 := by omega
    obtain rfl := Option.some.inj hu
    exact (blk_cell hb2 1).trans rfl
  · obtain rfl : l2 = p := Option.some.inj hj
    refine ⟨[.slice A2 l2.length c2], rfl, ⟨A2, c2, rfl, n2, h2 W hW⟩, fun i u hu => ?_⟩
    have hi : i < 1 := (List.getElem?_eq_some_iff.1 hu).1
    obtain rfl : i = 0 := by omega
    obtain rfl := Option.some.inj hu
    exact (blk_cell hb2 2).trans rfl
theorem N_Fb {ok : Nat → Prop} {w : World} {base : Nat} {A : Option Addr} {n c : Nat} {l : List OptF} (h : ON w base ok (.slice A n c) l) : Kd.F k53 w ok A l.length l := by
  have := Kd.N_F h
  rwa [(Kd.N_reads' h).1] at this

theorem owx {w W : World} (_h : Below w.heap.size w W) : ∃ Wn, Wn = W := ⟨_, rfl⟩
theorem osize {w W : World} (_h : Below w.heap.size w W) : ∃ b, b = W.heap.size := ⟨_, rfl⟩
theorem blk_new_o {w W : World} (_h : Below w.heap.size w W) (o : Obj) : (W.alloc o).heap[W.heap.size]? = some o := blk_new W o
theorem below_alloc_o {w W : World} (_h : Below w.heap.size w W) (o : Obj) : Below W.heap.size W (W.alloc o) := below_alloc (Below.refl _ _) o
set_option maxHeartbeats 8000000 in
set_option maxRecDepth 100000 in
theorem put_ok (ok : Nat → Prop) (A : Option Addr) (c : Nat) (l : List OptF) (code : Int) (D : Option Addr) (cd : Nat) (data : List Int) (w : World) (hF : Kd.F k53 w ok A l.length l) (hfr : ∀ k, w.heap.size ≤ k → ok k) (hc : l.length ≤ c) (hl : l.length ≤ 500000) (hd : ∀ x ∈ l, x.f1.length < 140737488355328)
    (hD : (Kd.int .u8).C w D data.length data) (hcd : data.length ≤ cd) (hdl : data.length < 140737488355328) :
    Calls Tryd.prog 6 #[.slice A l.length c, .int .i64 code, .slice D data.length cd] w fun e w' => ∃ v, e = .returned v ∧ ON w' w.heap.size ok v (opPut l code data) ∧ Below w.heap.size w w' := by
  have HF := Lib.hid hF
  have HFR := Lib.hid hfr
  have HD := Lib.hid hD
  have HDD := Lib.hid hd
  clear hF hD hd hfr
  go_enter Tryd.func6, Tryd.ntmps6
  go_wp2_with fail
  refine (owned_ok ok A c l _ HF.out HFR.out hc (by omega) HDD.out).mono ?_
  rintro e w1 ⟨v1, rfl, hn1, hb1⟩
  obtain ⟨Av, cv, rfl⟩ := Kd.N_slice hn1
  have HN1 := Lib.hid hn1
  have HB1 := Lib.hid hb1
  clear hn1 hb1
  go_wp2_with fail
  refine (clone_calls D cd data _ (Kd.C_below HD.out HB1.out) hcd hdl).mono ?_
  rintro e w2 ⟨v2, rfl, hv2, hb2⟩
  obtain ⟨A2, c2, rfl⟩ := Kd.R_slice hv2
  have HN2 := Lib.hid (Kd.N_below HN1.out hb2)
  have HB2 := Lib.hid (HB1.out.trans (hb2.mono HB1.out.size))
  have HV2 := Lib.hid (Kd.R_tight rfl hv2)
  have HV2L : Hid (∀ k, (Value.slice A2 data.length c2).ownBlock = some k → w1.heap.size ≤ k ∧ k < w2.heap.size) := fun k hk => ⟨Kd.R_base hv2 k hk, Kd.R_lt hv2 k hk⟩
  have HB1s := Lib.hid HB1.out.size
  clear hv2 hb2 HN1 HB1
  obtain ⟨bx, hbx⟩ : ∃ b, w2.heap.size = b := ⟨_, rfl⟩
  obtain ⟨w3, hw3⟩ : ∃ W, w2.alloc (.cells #[.int .i64 code, .slice A2 data.length c2] 53) = W := ⟨_, rfl⟩
  have HBX3 : Hid (Boxed2 w3 bx code (.slice A2 data.length c2)) := by show _ = _; rw [← hw3, ← hbx]; exact blk_new _ _
  have hb3 : Below w2.heap.size w2 w3 := by rw [← hw3]; exact below_alloc (Below.refl _ _) _
  have HN3 := Lib.hid (Kd.N_below HN2.out hb3)
  have HB3 := Lib.hid (HB2.out.trans (hb3.mono HB2.out.size))
  have HV3 := Lib.hid (Kd.R_below HV2.out hb3)
  have HV3L : Hid (∀ k, (Value.slice A2 data.length c2).ownBlock = some k → k < bx) := fun k hk => by have := (HV2L.out k hk).2; omega
  have HV3G : Hid (∀ k, (Value.slice A2 data.length c2).ownBlock = some k → ok k) := fun k hk => HFR.out k (Nat.le_trans HB1s.out (HV2L.out k hk).1)
  have HBXL : Hid (w.heap.size ≤ bx) := by show _ ≤ _; rw [← hbx]; exact HB2.out.size
  clear HV2 HV2L HN2 HB2 hb3
  go_upto_region 3 with fail
  clear hw3 hbx
  go_wp2_with fail
  refine (of_calls code _).mono ?_
  rintro e w4 ⟨rfl, rfl⟩
  obtain ⟨bc, hbc⟩ : ∃ b, w3.heap.size = b := ⟨_, rfl⟩
  obtain ⟨w4, hw4⟩ : ∃ W, w3.alloc (.cells #[.int .i64 code] 3) = W := ⟨_, rfl⟩
  have HC4 : Hid (Boxed w4 bc 3 (.int .i64 code)) := by show Boxed _ _ _ _; rw [← hw4, ← hbc]; exact Boxed.new _ _ _
  have hb4 : Below w3.heap.size w3 w4 := by rw [← hw4]; exact below_alloc (Below.refl _ _) _
  have HN4 := Lib.hid (Kd.N_below HN3.out hb4)
  have HB4 := Lib.hid (HB3.out.trans (hb4.mono HB3.out.size))
  have HV4 := Lib.hid (Kd.R_below HV3.out hb4)
  have HBX4 : Hid (Boxed2 w4 bx code (.slice A2 data.length c2)) := (hb4.block bx (blk_lt HBX3.out)).trans HBX3.out
  rw [hw4, hbc]
  clear hw4 hbc hb4 HN3 HB3 HV3 HBX3
  have HIX := Lib.hid (ix_calls (fun x => x.f0 == code) _ #[.pointer (some ⟨bc, 0, none⟩)] enters_of Av cv l w4 (Kd.N_reads' HN4.out).2.2 (Kd.N_reads' HN4.out).2.1 (fun k hk A1 c1 W hW => of1_calls bc code _ A1 _ c1 W ((hW.block _ HC4.out.lt).trans HC4.out)))
  obtain ⟨ix, hix⟩ : ∃ ix, ixOf (fun x : OptF => x.f0 == code) l = ix := ⟨_, rfl⟩
  rw [hix] at HIX
  go_wp2_with fail
  refine HIX.out.mono ?_
  rintro e w5 ⟨rfl, hb5⟩
  have HN5 := Lib.hid (Kd.N_below HN4.out hb5)
  have HB5 := Lib.hid (HB4.out.trans (hb5.mono HB4.out.size))
  have HV5 := Lib.hid (Kd.R_below HV4.out hb5)
  have HBX5 : Hid (Boxed2 w5 bx code (.slice A2 data.length c2)) := (hb5.block bx (blk_lt HBX4.out)).trans HBX4.out
  clear hb5 HN4 HB4 HV4 HBX4 HIX HC4
  by_cases hneg : ix < 0
  · have HP : Hid (opPut l code data = l ++ [⟨code, data⟩]) := by
      show _ = _
      unfold opPut
      rw [if_neg (by rw [hix]; omega)]
    have e0 := (blk_cell HBX5.out 0).trans rfl
    have e1 := (blk_cell HBX5.out 1).trans rfl
    clear hix
    go_wp2_with fail
    refine start_ (n := 6) (S := fun w' => w'.cell? ⟨bx, 0, none⟩ = some (.int .i64 code) ∧ w'.cell? ⟨bx, 1, none⟩ = some (.slice A2 data.length c2)) (ds := []) #[false, false, false, false, false, false] (by kernel_rfl) rfl rfl ⟨e0, e1⟩ (fun hHeld => ?_)
    obtain ⟨W2, hW2⟩ : ∃ W2, w5.drew = W2 := ⟨_, rfl⟩
    have hbw : Below w5.heap.size w5 W2 := by rw [← hW2]; exact below_drew (Below.refl _ _)
    rw [hW2] at hHeld ⊢
    clear hW2
    have HBW := Lib.hid hbw
    have HW := Lib.hid (Below.refl W2.heap.size W2)
    have HNW := Lib.hid (Kd.N_below HN5.out hbw)
    have HBXW : Hid (Boxed2 W2 bx code (.slice A2 data.length c2)) := (hbw.block bx (blk_lt HBX5.out)).trans HBX5.out
    have HVW := Lib.hid (Kd.R_below HV5.out hbw)
    clear hbw
    refine pure_ (i := 0) (N := some 22) (v := ?_) (a' := ?_) #[true, false, false, false, false, false] rfl rfl (by kernel_rfl) (fun _ _ _ h => h) (Or.inl ⟨by rfl, ?_⟩) ?_ ?_
    rotate_left
    · intro w'
      go_simp
      with_reducible rfl
    rotate_left
    · simp only [Act.put, List.setIfInBounds_toArray, List.set_cons_zero, List.set_cons_succ, i64_w, i32_w]
      rfl
    refine take_ (i := 2) (N := some 24) (v := .agg #[.int .i64 code, .slice A2 data.length c2]) (a' := ?_) #[true, false, true, false, false, false] rfl rfl (by kernel_rfl) (fun _ _ _ h => h) (Or.inl ⟨by rfl, ?_⟩) hHeld ?_ ?_
    · rintro w' ⟨s0, s1⟩
      go_simp
      try (with_reducible rfl)
    rotate_left
    · simp only [Act.put, List.setIfInBounds_toArray, List.set_cons_zero, List.set_cons_succ, i64_w, i32_w]
      rfl
    refine join_ (σ := Value × Nat) 2 #[true, true, true, true, false, false] (fun s => [(23, s.1), (25, .slice (some ⟨s.2, 0, none⟩) 1 1)]) (fun s w' => (w'.cell? ⟨bx, 0, none⟩ = some (.int .i64 code) ∧ w'.cell? ⟨bx, 1, none⟩ = some (.slice A2 data.length c2)) ∧ Below W2.heap.size W2 w' ∧ ON w' W2.heap.size ok s.1 l ∧ Boxed2 w' s.2 code (.slice A2 data.length c2) ∧ some s.2 ≠ s.1.ownBlock ∧ w.heap.size ≤ s.2) ?_ ?_
    rotate_left
    · intro hCont
      refine two_ (i := 1) (j := 3) (Ni := some 23) (Nj := some 25) #[true, true, true, false, false, false] #[true, false, true, true, false, false] rfl rfl rfl rfl (by kernel_rfl) (by decide) (by decide) (fun K hK => ?_) (fun K hK => ?_)
      · skip
        refine goes_ Tryd.func20 (by kernel_rfl) rfl #[.slice Av l.length cv] (by rfl) rfl rfl (by (try simp only [List.map_toArray, List.map_cons, List.map_nil]); rfl) ?_
        have hNow := Kd.N_below HNW.out HW.out
        obtain ⟨Wn, hWn⟩ := owx HW.out
        rw [← hWn] at hNow ⊢
        refine (oclone_ok ok Av cv l Wn (N_Fb hNow) (fun k hk => HFR.out k (Nat.le_trans (Nat.le_trans HB5.out.size (Nat.le_trans HBW.out.size HW.out.size)) (hWn ▸ hk))) (Kd.N_reads' hNow).2.1 (by omega)).mono ?_
        rintro e w7 ⟨v23, rfl, hn7, hb7⟩
        rw [hWn] at hb7 hn7
        have t1 := Lib.hid (HW.out.trans (hb7.mono HW.out.size))
        have HO5 := Lib.hid (Kd.N_lower hn7 HW.out.size)
        try (have HNE : Hid (some b6 ≠ v23.ownBlock) := fun e => by have := Kd.N_base hn7 b6 e.symm; have := blk_lt HB6.out; omega)
        try (have t3 : Hid (Boxed2 w7 b6 code (.slice A2 data.length c2)) := (hb7.block b6 (blk_lt HB6.out)).trans HB6.out; clear HB6; have HB6 := t3; clear t3)
        clear HW hn7 hb7 hNow hWn hHeld
        have HW := t1
        clear t1
        refine ⟨_, rfl, ?_⟩
        refine hK.out _ _ ⟨(blk_cell ((HW.out.block bx (blk_lt HBXW.out)).trans HBXW.out) 0).trans rfl, (blk_cell ((HW.out.block bx (blk_lt HBXW.out)).trans HBXW.out) 1).trans rfl⟩ (fun hHeld => ?_)
        clear hK K
        refine norm_ (a' := ?_) ?_ ?_
        rotate_left
        · first | (show Act.put _ (some 23) _ = _; simp only [Act.put, List.setIfInBounds_toArray, List.set_cons_zero, List.set_cons_succ, i64_w, i32_w]; rfl) | rfl
        refine one_ (i := 3) (N := some 25) #[true, true, true, true, false, false] rfl rfl (by kernel_rfl) (by decide) (fun K hK => ?_)
        go_simp
        clear hHeld
        have HB6 := Lib.hid (blk_new_o HW.out (.cells #[.int .i64 code, .slice A2 data.length c2] 53))
        have BN := Lib.hid (below_alloc_o HW.out (.cells #[.int .i64 code, .slice A2 data.length c2] 53))
        obtain ⟨b6, hb6⟩ := osize HW.out
        have HB6L : Hid (w.heap.size ≤ b6) := by show _ ≤ _; rw [hb6]; exact Nat.le_trans HB5.out.size (Nat.le_trans HBW.out.size HW.out.size)
        rw [← hb6] at HB6 ⊢
        have t1 := Lib.hid (below_alloc HW.out (.cells #[.int .i64 code, .slice A2 data.length c2] 53))
        try (have HNE : Hid (some b6 ≠ v23.ownBlock) := fun e => by have := Kd.N_lt HO5.out b6 e.symm; omega)
        try (have t3 := Lib.hid (Kd.N_below HO5.out BN.out); clear HO5; have HO5 := t3; clear t3)
        clear HW
        have HW := t1
        clear BN t1 hb6
        refine hK.out _ _ ⟨(blk_cell ((HW.out.block bx (blk_lt HBXW.out)).trans HBXW.out) 0).trans rfl, (blk_cell ((HW.out.block bx (blk_lt HBXW.out)).trans HBXW.out) 1).trans rfl⟩ (fun hHeld => ?_)
        clear hK K
        refine norm_ (a' := ?_) ?_ ?_
        rotate_left
        · first | (show Act.put _ (some 25) _ = _; simp only [Act.put, List.setIfInBounds_toArray, List.set_cons_zero, List.set_cons_succ, i64_w, i32_w]; rfl) | rfl
        exact norm_ (by simp only [putAll, Act.put, List.setIfInBounds_toArray, List.set_cons_zero, List.set_cons_succ]) (hCont (v23, b6) _ ⟨hHeld, HW.out, HO5.out, HB6.out, HNE.out, HB6L.out⟩)
      · skip
        go_simp
        clear hHeld
        have HB6 := Lib.hid (blk_new_o HW.out (.cells #[.int .i64 code, .slice A2 data.length c2] 53))
        have BN := Lib.hid (below_alloc_o HW.out (.cells #[.int .i64 code, .slice A2 data.length c2] 53))
        obtain ⟨b6, hb6⟩ := osize HW.out
        have HB6L : Hid (w.heap.size ≤ b6) := by show _ ≤ _; rw [hb6]; exact Nat.le_trans HB5.out.size (Nat.le_trans HBW.out.size HW.out.size)
        rw [← hb6] at HB6 ⊢
        have t1 := Lib.hid (below_alloc HW.out (.cells #[.int .i64 code, .slice A2 data.length c2] 53))
        try (have HNE : Hid (some b6 ≠ v23.ownBlock) := fun e => by have := Kd.N_lt HO5.out b6 e.symm; omega)
        try (have t3 := Lib.hid (Kd.N_below HO5.out BN.out); clear HO5; have HO5 := t3; clear t3)
        clear HW
        have HW := t1
        clear BN t1 hb6
        refine hK.out _ _ ⟨(blk_cell ((HW.out.block bx (blk_lt HBXW.out)).trans HBXW.out) 0).trans rfl, (blk_cell ((HW.out.block bx (blk_lt HBXW.out)).trans HBXW.out) 1).trans rfl⟩ (fun hHeld => ?_)
        clear hK K
        refine norm_ (a' := ?_) ?_ ?_
        rotate_left
        · first | (show Act.put _ (some 25) _ = _; simp only [Act.put, List.setIfInBounds_toArray, List.set_cons_zero, List.set_cons_succ, i64_w, i32_w]; rfl) | rfl
        refine one_ (i := 1) (N := some 23) #[true, true, true, true, false, false] rfl rfl (by kernel_rfl) (by decide) (fun K hK => ?_)
        refine goes_ Tryd.func20 (by kernel_rfl) rfl #[.slice Av l.length cv] (by rfl) rfl rfl (by (try simp only [List.map_toArray, List.map_cons, List.map_nil]); rfl) ?_
        have hNow := Kd.N_below HNW.out HW.out
        obtain ⟨Wn, hWn⟩ := owx HW.out
        rw [← hWn] at hNow ⊢
        refine (oclone_ok ok Av cv l Wn (N_Fb hNow) (fun k hk => HFR.out k (Nat.le_trans (Nat.le_trans HB5.out.size (Nat.le_trans HBW.out.size HW.out.size)) (hWn ▸ hk))) (Kd.N_reads' hNow).2.1 (by omega)).mono ?_
        rintro e w7 ⟨v23, rfl, hn7, hb7⟩
        rw [hWn] at hb7 hn7
        have t1 := Lib.hid (HW.out.trans (hb7.mono HW.out.size))
        have HO5 := Lib.hid (Kd.N_lower hn7 HW.out.size)
        try (have HNE : Hid (some b6 ≠ v23.ownBlock) := fun e => by have := Kd.N_base hn7 b6 e.symm; have := blk_lt HB6.out; omega)
        try (have t3 : Hid (Boxed2 w7 b6 code (.slice A2 data.length c2)) := (hb7.block b6 (blk_lt HB6.out)).trans HB6.out; clear HB6; have HB6 := t3; clear t3)
        clear HW hn7 hb7 hNow hWn hHeld
        have HW := t1
        clear t1
        refine ⟨_, rfl, ?_⟩
        refine hK.out _ _ ⟨(blk_cell ((HW.out.block bx (blk_lt HBXW.out)).trans HBXW.out) 0).trans rfl, (blk_cell ((HW.out.block bx (blk_lt HBXW.out)).trans HBXW.out) 1).trans rfl⟩ (fun hHeld => ?_)
        clear hK K
        refine norm_ (a' := ?_) ?_ ?_
        rotate_left
        · first | (show Act.put _ (some 23) _ = _; simp only [Act.put, List.setIfInBounds_toArray, List.set_cons_zero, List.set_cons_succ, i64_w, i32_w]; rfl) | rfl
        exact norm_ (by simp only [putAll, Act.put, List.setIfInBounds_toArray, List.set_cons_zero, List.set_cons_succ]) (hCont (v23, b6) _ ⟨hHeld, HW.out, HO5.out, HB6.out, HNE.out, HB6L.out⟩)
    rintro ⟨u3, b6⟩ w' ⟨hHeld, hw_, ho5, hb6, hn5, hg6⟩
    dsimp only at ho5 hb6 hn5 hg6
    have HB6L := Lib.hid hg6
    have HW := Lib.hid hw_
    have HO5 := Lib.hid ho5
    have HB6 := Lib.hid hb6
    have HN6 := Lib.hid hn5
    clear hw_ ho5 hb6 hn5 hg6
    refine norm_ (a' := ?_) ?_ ?_
    rotate_left
    focus (simp only [putAll, Act.put, List.setIfInBounds_toArray, List.set_cons_zero, List.set_cons_succ]; rfl)
    refine one_ (i := 4) (N := some 26) #[true, true, true, true, true, false] rfl rfl (by kernel_rfl) (by decide) (fun K hK => ?_)
    refine Kd.N_append_rows_step k53 (w0 := W2) W2.heap.size (by rfl) (.tmp 23) (.tmp 25) 25 53 (.agg #[.int .i64 0, .slice none 0 0]) 32 rfl Tryd.underlying25 oinfo rfl (by decide) (by decide) u3 l [⟨code, data⟩] (some ⟨b6, 0, none⟩) 1 1 ok (fun k => k = b6 ∨ some k = (Value.slice A2 data.length c2).ownBlock) rfl rfl HO5.out (F_one HB6.out (Kd.R_reads' HVW.out).2.1 (Kd.R_F (Kd.R_below HVW.out HW.out))) (fun k hk => ⟨?_, ?_⟩) (fun k hk => HFR.out k (Nat.le_trans (Nat.le_trans HB5.out.size (Nat.le_trans HBW.out.size HW.out.size)) hk)) HW.out HW.out.size (by omega) ?_
    · rcases hk with rfl | hk
      · exact HFR.out _ HB6L.out
      · exact HV3G.out k hk.symm
    · rcases hk with rfl | hk
      · exact HN6.out
      · intro e
        have h1 := Kd.N_base HO5.out k e.symm
        have h2 := HV3L.out k hk.symm
        have h3 := blk_lt HBXW.out
        omega
    intro v9 w9 ho9 hb9 _ _
    have HO9 := Lib.hid ho9
    have HB9 := Lib.hid (HB5.out.trans ((HBW.out.trans (hb9.mono HBW.out.size)).mono HB5.out.size))
    have HW9 := Lib.hid hb9
    clear ho9 hb9 hHeld
    refine hK.out _ _ ⟨(blk_cell ((HW9.out.block bx (blk_lt HBXW.out)).trans HBXW.out) 0).trans rfl, (blk_cell ((HW9.out.block bx (blk_lt HBXW.out)).trans HBXW.out) 1).trans rfl⟩ (fun hHeld => ?_)
    clear hK K
    refine norm_ (a' := ?_) ?_ ?_
    rotate_left
    · show Act.put _ (some 26) _ = _
      simp only [Act.put, List.setIfInBounds_toArray, List.set_cons_zero, List.set_cons_succ, i64_w, i32_w]
      rfl
    refine pure_ (i := 5) (N := some 6) (v := ?_) (a' := ?_) #[true, true, true, true, true, true] rfl rfl (by kernel_rfl) (fun _ _ _ h => h) (Or.inl ⟨by rfl, ?_⟩) ?_ ?_
    rotate_left
    · intro w'
      go_simp
      with_reducible rfl
    rotate_left
    · simp only [Act.put, List.setIfInBounds_toArray, List.set_cons_zero, List.set_cons_succ, i64_w, i32_w]
      rfl
    refine done_ (by kernel_rfl) ?_
    go_wp2_with fail
    go_ret
    exact ⟨v9, rfl, by rw [HP.out]; exact Kd.N_lower HO9.out (Nat.le_trans HB5.out.size HBW.out.size), HB9.out⟩
  · obtain ⟨k, hk, rfl⟩ : ∃ (k : Nat), k < l.length ∧ ix = (k : Int) := by
      rcases ix_split (fun x : OptF => x.f0 == code) l with ⟨h, _⟩ | ⟨k, hk, h, _⟩
      · rw [h] at hix; omega
      · exact ⟨k, hk, hix.symm.trans h⟩
    obtain ⟨lk, hlk⟩ : ∃ lk, lk = l.take k := ⟨_, rfl⟩
    obtain ⟨lr, hlr⟩ : ∃ lr, lr = l.drop (k + 1) := ⟨_, rfl⟩
    obtain ⟨lf, hlf⟩ : ∃ lf, lf = lr.filter (fun x => !(x.f0 == code)) := ⟨_, rfl⟩
    have HP : Hid (opPut l code data = lk ++ [⟨code, data⟩] ++ lf) := by
      show _ = _
      unfold opPut
      rw [if_pos (by rw [hix]; omega), hix, Int.toNat_natCast, hlf, hlr, hlk]
    have elk : lk.length = k := by rw [hlk, List.length_take]; omega
    have elr : lr.length = l.length - (k + 1) := by rw [hlr, List.length_drop]
    have elf : lf.length ≤ lr.length := by rw [hlf]; exact List.length_filter_le _ _
    have HELK := Lib.hid elk
    have HELR := Lib.hid elr
    have HELF := Lib.hid elf
    have HLF := Lib.hid hlf
    obtain ⟨i0, hinf, hzz⟩ := Option.map_eq_some_iff.1 oinfo
    simp only [Prod.mk.injEq] at hzz
    obtain ⟨_, hcv, _⟩ := Kd.N_reads' HN5.out
    have HCV := Lib.hid hcv
    have r1 := cut_from (P := Tryd.prog) 25 53 .i64 Tryd.underlying25 hinf 2 hzz.2.1 Av l.length cv ((k : Int) + 1) (by omega) (by omega)
    rw [show ((k : Int) + 1).toNat = k + 1 from by omega, ← elr] at r1
    obtain ⟨A6, hA6⟩ : ∃ A6, A6 = (if cv = k + 1 then Av else Av.map (·.add ((k + 1) * 2))) := ⟨_, rfl⟩
    obtain ⟨c6, hc6⟩ : ∃ c6, c6 = cv - (k + 1) := ⟨_, rfl⟩
    rw [← hA6, ← hc6] at r1
    have HF6 : Hid (Kd.F k53 w5 ok A6 lr.length lr) := by
      show Kd.F _ _ _ _ _ _
      rw [hA6, hlr]
      exact Kd.F_imp (N_Fb HN5.out) (fun W' h => Kd.C_drop h (by omega) hcv)
    have HC6 : Hid (lr.length ≤ c6) := by show _ ≤ _; omega
    have r2 := cut_to (P := Tryd.prog) 25 53 .i64 Tryd.underlying25 hinf Av l.length cv (k : Int) (by omega) (by omega) hcv
    rw [Int.toNat_natCast, ← elk] at r2
    have HTK : Hid (∀ W, ON W w.heap.size ok (.slice Av l.length cv) l → ON W w.heap.size ok (.slice Av lk.length cv) lk) := fun W h => by rw [elk, hlk]; exact Kd.N_take h (by omega)
    rw [elk] at r2
    have p1 : ((k : Int) < 0) = False := eq_false (by omega)
    have hkl : (k : Int) + 1 ≤ 500000 := by omega
    clear hix hlk hlr hlf elk elr elf hinf hzz hcv hA6 hc6 hneg
    go_wp2_with fail
    refine (oclone_ok ok A6 c6 lr _ HF6.out (fun k hk => HFR.out k (Nat.le_trans HB5.out.size hk)) HC6.out (by have := HELR.out; omega)).mono ?_
    rintro e w7 ⟨v7, rfl, hn7, hb7⟩
    have HN7 := Lib.hid hn7
    have HB7 := Lib.hid hb7
    clear hn7 hb7
    go_wp2_with fail
    refine (of_calls code _).mono ?_
    rintro e w8 ⟨rfl, rfl⟩
    obtain ⟨bc2, hbc⟩ : ∃ b, w7.heap.size = b := ⟨_, rfl⟩
    obtain ⟨w8, hw8⟩ : ∃ W, w7.alloc (.cells #[.int .i64 code] 3) = W := ⟨_, rfl⟩
    have HC8 : Hid (Boxed w8 bc2 3 (.int .i64 code)) := by show Boxed _ _ _ _; rw [← hw8, ← hbc]; exact Boxed.new _ _ _
    have hb8 : Below w7.heap.size w7 w8 := by rw [← hw8]; exact below_alloc (Below.refl _ _) _
    have HL7 : Hid (∀ j, v7.ownBlock = some j → w5.heap.size ≤ j ∧ j < bc2) := fun j hj => ⟨Kd.N_base HN7.out j hj, by have := Kd.N_lt HN7.out j hj; omega⟩
    have HN8 := Lib.hid (Kd.N_below HN7.out hb8)
    have HB8 := Lib.hid (HB7.out.trans (hb8.mono HB7.out.size))
    rw [hw8, hbc]
    clear hw8 hbc hb8 HN7 HB7
    have HDEL := Lib.hid (del_ok ok (fun x => x.f0 == code) _ #[.pointer (some ⟨bc2, 0, none⟩)] enters_of v7 lr w8 w5.heap.size HN8.out (by have := HELR.out; omega) (fun x A1 c1 W hW => of1_calls bc2 code _ A1 _ c1 W ((hW.block bc2 HC8.out.lt (fun e => by have := (HL7.out bc2 e).2; omega)).trans HC8.out)))
    rw [← HLF.out] at HDEL
    go_wp2_with fail
    refine HDEL.out.mono ?_
    rintro e w9 ⟨v9, rfl, hn9, hf9⟩
    obtain ⟨A9, c9, rfl⟩ := Kd.N_slice hn9
    have HB59 : Hid (Below w5.heap.size w5 w9) := HB8.out.trans (hf9.to_below HB8.out.size (fun j hj => (HL7.out j hj).1))
    have HN9 := Lib.hid (Kd.N_below HN5.out HB59.out)
    have HM9 := Lib.hid hn9
    have HB9 := Lib.hid (HB5.out.trans (HB59.out.mono HB5.out.size))
    have HV9 := Lib.hid (Kd.R_below HV5.out HB59.out)
    have HBX9 : Hid (Boxed2 w9 bx code (.slice A2 data.length c2)) := (HB59.out.block bx (blk_lt HBX5.out)).trans HBX5.out
    clear hn9 hf9 HDEL HN8 HB8 HC8 HL7 HF6 HC6 r1 HN5 HB5 HV5 HBX5
    have e0 := (blk_cell HBX9.out 0).trans rfl
    have e1 := (blk_cell HBX9.out 1).trans rfl
    go_wp2_with fail
    refine start_ (n := 9) (S := fun w' => w'.cell? ⟨bx, 0, none⟩ = some (.int .i64 code) ∧ w'.cell? ⟨bx, 1, none⟩ = some (.slice A2 data.length c2)) (ds := []) #[false, false, false, false, false, false, false, false, false] (by kernel_rfl) rfl rfl ⟨e0, e1⟩ (fun hHeld => ?_)
    obtain ⟨W2, hW2⟩ : ∃ W2, w9.drew = W2 := ⟨_, rfl⟩
    have hbw : Below w9.heap.size w9 W2 := by rw [← hW2]; exact below_drew (Below.refl _ _)
    rw [hW2] at hHeld ⊢
    clear hW2
    have HBW := Lib.hid hbw
    have HW := Lib.hid (Below.refl W2.heap.size W2)
    have HNW := Lib.hid (Kd.N_below HN9.out hbw)
    have HMW := Lib.hid (Kd.N_below HM9.out hbw)
    have HBXW : Hid (Boxed2 W2 bx code (.slice A2 data.length c2)) := (hbw.block bx (blk_lt HBX9.out)).trans HBX9.out
    have HVW := Lib.hid (Kd.R_below HV9.out hbw)
    clear hbw
    refine pure_ (i := 0) (N := some 35) (v := ?_) (a' := ?_) #[true, false, false, false, false, false, false, false, false] rfl rfl (by kernel_rfl) (fun _ _ _ h => h) (Or.inl ⟨by rfl, ?_⟩) ?_ ?_
    rotate_left
    · intro w'
      go_simp
      with_reducible rfl
    rotate_left
    · simp only [Act.put, List.setIfInBounds_toArray, List.set_cons_zero, List.set_cons_succ, i64_w, i32_w]
      rfl
    refine pure_ (i := 1) (N := some 36) (v := ?_) (a' := ?_) #[true, true, false, false, false, false, false, false, false] rfl rfl (by kernel_rfl) (fun _ _ _ h => h) (Or.inl ⟨by rfl, ?_⟩) ?_ ?_
    rotate_left
    · intro w'
      go_simp
      with_reducible rfl
    rotate_left
    · simp only [Act.put, List.setIfInBounds_toArray, List.set_cons_zero, List.set_cons_succ, i64_w, i32_w]
      rfl
    refine pure_ (i := 2) (N := some 37) (v := .slice Av k cv) (a' := ?_) #[true, true, true, false, false, false, false, false, false] rfl rfl (by kernel_rfl) (fun _ _ _ h => h) (Or.inl ⟨by rfl, ?_⟩) ?_ ?_
    · intro w'
      go_simp
      try (with_reducible rfl)
    rotate_left
    · simp only [Act.put, List.setIfInBounds_toArray, List.set_cons_zero, List.set_cons_succ, i64_w, i32_w]
      rfl
    refine pure_ (i := 5) (N := some 40) (v := ?_) (a' := ?_) #[true, true, true, false, false, true, false, false, false] rfl rfl (by kernel_rfl) (fun _ _ _ h => h) (Or.inl ⟨by rfl, ?_⟩) ?_ ?_
    rotate_left
    · intro w'
      go_simp
      with_reducible rfl
    rotate_left
    · simp only [Act.put, List.setIfInBounds_toArray, List.set_cons_zero, List.set_cons_succ, i64_w, i32_w]
      rfl
    refine take_ (i := 3) (N := some 38) (v := .agg #[.int .i64 code, .slice A2 data.length c2]) (a' := ?_) #[true, true, true, true, false, true, false, false, false] rfl rfl (by kernel_rfl) (fun _ _ _ h => h) (Or.inl ⟨by rfl, ?_⟩) hHeld ?_ ?_
    · rintro w' ⟨s0, s1⟩
      go_simp
      try (with_reducible rfl)
    rotate_left
    · simp only [Act.put, List.setIfInBounds_toArray, List.set_cons_zero, List.set_cons_succ, i64_w, i32_w]
      rfl
    refine one_ (i := 4) (N := some 39) #[true, true, true, true, true, true, false, false, false] rfl rfl (by kernel_rfl) (by decide) (fun K hK => ?_)
    go_simp
    clear hHeld
    have HB6 := Lib.hid (blk_new_o HW.out (.cells #[.int .i64 code, .slice A2 data.length c2] 53))
    obtain ⟨b6, hb6⟩ := osize HW.out
    have HB6L : Hid (w.heap.size ≤ b6) := by show _ ≤ _; rw [hb6]; exact Nat.le_trans HB9.out.size (Nat.le_trans HBW.out.size HW.out.size)
    rw [← hb6] at HB6 ⊢
    have t1 := Lib.hid (below_alloc HW.out (.cells #[.int .i64 code, .slice A2 data.length c2] 53))
    clear HW hb6
    have HW := t1
    clear t1
    obtain ⟨W6, hW6⟩ := owx HW.out
    rw [← hW6] at HW HB6 ⊢
    clear hW6
    refine hK.out _ _ ⟨(blk_cell ((HW.out.block bx (blk_lt HBXW.out)).trans HBXW.out) 0).trans rfl, (blk_cell ((HW.out.block bx (blk_lt HBXW.out)).trans HBXW.out) 1).trans rfl⟩ (fun hHeld => ?_)
    clear hK K
    try (refine norm_ (a' := ?_) ?_ ?_; rotate_left; focus (simp only [Act.put, List.setIfInBounds_toArray, List.set_cons_zero, List.set_cons_succ, i64_w, i32_w]; rfl))
    refine one_ (i := 6) (N := some 41) #[true, true, true, true, true, true, true, false, false] rfl rfl (by kernel_rfl) (by decide) (fun K hK => ?_)
    go_simp
    clear hHeld
    have HB7 := Lib.hid (blk_new_o HW.out (.cells #[.slice Av k cv, .slice (some ⟨b6, 0, none⟩) 1 1, .slice A9 lf.length c9] 25))
    have BN := Lib.hid (below_alloc_o HW.out (.cells #[.slice Av k cv, .slice (some ⟨b6, 0, none⟩) 1 1, .slice A9 lf.length c9] 25))
    obtain ⟨b7, hb7⟩ := osize HW.out
    have HB7L : Hid (w.heap.size ≤ b7) := by show _ ≤ _; rw [hb7]; exact Nat.le_trans HB9.out.size (Nat.le_trans HBW.out.size HW.out.size)
    rw [← hb7] at HB7 ⊢
    have t1 := Lib.hid (below_alloc HW.out (.cells #[.slice Av k cv, .slice (some ⟨b6, 0, none⟩) 1 1, .slice A9 lf.length c9] 25))
    have t2 : Hid (Boxed2 _ b6 code (.slice A2 data.length c2)) := (BN.out.block b6 (blk_lt HB6.out)).trans HB6.out
    clear HW hb7 HB6 BN
    have HW := t1
    have HB6 := t2
    clear t1 t2
    obtain ⟨W7, hW7⟩ := owx HW.out
    rw [← hW7] at HW HB6 HB7 ⊢
    clear hW7
    refine hK.out _ _ ⟨(blk_cell ((HW.out.block bx (blk_lt HBXW.out)).trans HBXW.out) 0).trans rfl, (blk_cell ((HW.out.block bx (blk_lt HBXW.out)).trans HBXW.out) 1).trans rfl⟩ (fun hHeld => ?_)
    clear hK K
    try (refine norm_ (a' := ?_) ?_ ?_; rotate_left; focus (simp only [Act.put, List.setIfInBounds_toArray, List.set_cons_zero, List.set_cons_succ, i64_w, i32_w]; rfl))
    refine one_ (i := 7) (N := some 42) #[true, true, true, true, true, true, true, true, false] rfl rfl (by kernel_rfl) (by decide) (fun K hK => ?_)
    refine goes_ Tryd.func22 (by kernel_rfl) rfl #[.slice (some ⟨b7, 0, none⟩) 3 3] (by rfl) rfl rfl (by (try simp only [List.map_toArray, List.map_cons, List.map_nil]); rfl) ?_
    have hN7 := HTK.out _ (Kd.N_below HNW.out HW.out)
    have hM7 := Kd.N_below HMW.out HW.out
    have HB7' := HB7.out
    rw [← HELK.out] at HB7'
    have hF3 := F_three (l0 := lk) (l1 := [⟨code, data⟩]) (l2 := lf) HB7' (by rw [HELK.out]; have := HCV.out; omega) (Nat.le_refl _) (Kd.N_reads' hM7).2.1 (HFR.out _ HB7L.out) (N_Fb hN7)
      (Kd.F_mono (ok' := ok) (F_one HB6.out (Kd.R_reads' HVW.out).2.1 (Kd.R_F (Kd.R_below HVW.out HW.out))) (fun k hk => by rcases hk with rfl | hk; exact HFR.out _ HB6L.out; exact HV3G.out k hk.symm)) (N_Fb hM7)
    refine (concat_ok ok (some ⟨b7, 0, none⟩) 3 [lk, [⟨code, data⟩], lf] _ hF3 (fun k hk => HFR.out k (Nat.le_trans (Nat.le_trans HB9.out.size (Nat.le_trans HBW.out.size HW.out.size)) hk)) (Nat.le_refl _) (by simp; omega) (by have h1 := HELK.out; have h2 := HELF.out; have h3 := HELR.out; simp; omega)).mono ?_
    rintro e w10 ⟨v10, rfl, hn10, hb10⟩
    have HO10 := Lib.hid (Kd.N_lower hn10 (Nat.le_trans HB9.out.size (Nat.le_trans HBW.out.size HW.out.size)))
    have t1 := Lib.hid (HW.out.trans (hb10.mono HW.out.size))
    clear hn10 hb10 hF3 hN7 hM7 HB7' HB6 HB7 hHeld HW
    have HW := t1
    clear t1
    refine ⟨_, rfl, ?_⟩
    refine hK.out _ _ ⟨(blk_cell ((HW.out.block bx (blk_lt HBXW.out)).trans HBXW.out) 0).trans rfl, (blk_cell ((HW.out.block bx (blk_lt HBXW.out)).trans HBXW.out) 1).trans rfl⟩ (fun hHeld => ?_)
    clear hK K
    try (refine norm_ (a' := ?_) ?_ ?_; rotate_left; focus (simp only [Act.put, List.setIfInBounds_toArray, List.set_cons_zero, List.set_cons_succ, i64_w, i32_w]; rfl))
    refine pure_ (i := 8) (N := some 6) (v := ?_) (a' := ?_) #[true, true, true, true, true, true, true, true, true] rfl rfl (by kernel_rfl) (fun _ _ _ h => h) (Or.inl ⟨by rfl, ?_⟩) ?_ ?_
    rotate_left
    · intro w'
      go_simp
      with_reducible rfl
    rotate_left
    · simp only [Act.put, List.setIfInBounds_toArray, List.set_cons_zero, List.set_cons_succ, i64_w, i32_w]
      rfl
    refine done_ (by kernel_rfl) ?_
    go_wp2_with fail
    go_ret
    refine ⟨v10, rfl, ?_, HB9.out.trans ((HBW.out.trans (HW.out.mono HBW.out.size)).mono HB9.out.size)⟩
    rw [HP.out]
    have := HO10.out
    simpa using this
theorem put_calls (A : Option Addr) (c : Nat) (l : List OptF) (code : Int) (D : Option Addr) (cd : Nat) (data : List Int) (w : World) (hF : Kd.F k53 w (fun k => k < w.heap.size) A l.length l) (hc : l.length ≤ c) (hl : l.length ≤ 500000) (hd : ∀ x ∈ l, x.f1.length < 140737488355328)
    (hD : (Kd.int .u8).C w D data.length data) (hcd : data.length ≤ cd) (hdl : data.length < 140737488355328) :
    Calls Tryd.prog 6 #[.slice A l.length c, .int .i64 code, .slice D data.length cd] w fun e w' => ∃ v, e = .returned v ∧ ON w' w.heap.size (fun _ => True) v (opPut l code data) ∧ Below w.heap.size w w' :=
  put_ok (fun _ => True) A c l code D cd data w (Kd.F_mono hF (fun _ _ => trivial)) (fun _ _ => trivial) hc hl hd hD hcd hdl
end Go.Proofs.YtdpoknfidlekbaaDoor
end

section
namespace Go.Proofs.YtdpoknfidlekbaaDoor
open Go.RowKit Go.Proofs.YtdpoknfidlekbaaDoor.Pr Go.Proofs.YtdpoknfidlekbaaDoorW.PrintWords Go.Proofs.YtdpoknfidlekbaaDoorW.PrintLast Go.Proofs.YtdpoknfidlekbaaDoorW.PrintMore
attribute [local go_sem] max2_int min2_int max_two min_two max_three min_three max_four min_four
set_option linter.unusedVariables false
set_option linter.unusedSimpArgs false

instance (l : List Int) : Decidable (PQ.bytesL l) := by unfold PQ.bytesL; infer_instance
instance (a : Int) : Decidable (PR.okU a) := by unfold PR.okU; infer_instance
instance (l : List OptP) : Decidable (PO.few l) := by unfold PO.few; infer_instance
instance (a b c d e : Int) : Decidable (pkOk a b c d e) := by unfold pkOk; infer_instance
def lessortop_TopRoutes.f (a0 a1 a2 a3 a4 a5 a6 a7 : Int) (l8 : List Int) (l9 : List OptP) (l1 : List RtE) : Option Bool :=
  if pkOk a1 a4 a5 a6 a7 ∧ PQ.bytesL l8 ∧ (∀ x ∈ l9, PQ.bytesL x.f1) ∧ PO.few l9 ∧ l1.length ≤ 1048576 ∧ (∀ x ∈ l1, PR.okU x.f0 ∧ PR.okU x.f2) then some true else none
theorem few_nil : PO.few ([] : List OptP) := ⟨by simp, by simp⟩
theorem right_none : packet_Right.f 1048600 1 0 0 0 0 0 0 0 [1] [] = some true := (PP.right_eq 1 0 0 0 0 0 0 0 [1] [] few_nil 1048600 (Nat.le_refl _)).trans (congrArg some (by decide))
theorem enc_none : route_Encode.f [] = some ([], 0) := (PR.enc_eq [] (by simp) (by simp)).trans (congrArg some (by decide))
theorem one_C (W : World) : (Kd.int .u8).C (W.alloc (.cells #[.int .u8 1] 5)) (some ⟨W.heap.size, 0, none⟩) ([1] : List Int).length [1] := by
  refine ⟨rfl, by simp, fun _ => ⟨_, rfl, fun j y hj => ?_⟩⟩
  match j, hj with
  | 0, hj =>
    obtain rfl : (1 : Int) = y := by simpa using hj
    refine ⟨[.int .u8 1], rfl, rfl, fun i u hu => ?_⟩
    match i, hu with
    | 0, hu =>
      obtain rfl : Value.int .u8 1 = u := by simpa using hu
      exact (blk_cell (blk_new W (.cells #[.int .u8 1] 5)) 0).trans rfl
theorem encRR_cases (l : List RtE) : (∃ e, PR.encRR l = ([], e) ∧ (e = 1 ∨ e = 3)) ∨ (PR.encRR l = (rtEnc l, 0) ∧ (∀ x ∈ l, PR.okR x) ∧ (rtEnc l).length ≤ 255) := by
  unfold PR.encRR
  by_cases h : ∀ x ∈ l, PR.okR x
  · rw [if_pos h]
    by_cases h2 : 255 < (rtEnc l).length
    · rw [if_pos h2]; exact .inl ⟨3, rfl, .inr rfl⟩
    · rw [if_neg h2]; exact .inr ⟨rfl, h, by omega⟩
  · rw [if_neg h]; exact .inl ⟨1, rfl, .inl rfl⟩
theorem rt4_bytes (a : Int) : ∀ y ∈ rt4 a, 0 ≤ y ∧ y ≤ 255 := by
  intro y hy
  simp only [rt4, rtB, List.mem_cons, List.not_mem_nil, or_false] at hy
  omega
theorem rtEnc_bytes (l : List RtE) : ∀ y ∈ rtEnc l, 0 ≤ y ∧ y ≤ 255 := by
  intro y hy
  unfold rtEnc at hy
  obtain ⟨m, hm, hy⟩ := List.mem_flatten.1 hy
  obtain ⟨x, _, rfl⟩ := List.mem_map.1 hm
  unfold rtEnc1 at hy
  rcases List.mem_append.1 hy with hy | hy
  · rcases List.mem_append.1 hy with hy | hy
    · rw [List.mem_singleton.1 hy]; omega
    · exact rt4_bytes _ y (List.mem_of_mem_take hy)
  · exact rt4_bytes _ y hy
theorem rd_enc {l : List RtE} (h : ∀ x ∈ l, PR.okR x) (hu : ∀ x ∈ l, PR.okU x.f0 ∧ PR.okU x.f2) (hl : (rtEnc l).length ≤ 255) : rdR (rtEnc l) = (l, 0) := by
  unfold rdR
  rw [if_neg (by omega), PR.rdGo_enc l [] h hu]
  rfl
theorem opPut_all {q : List Int → Prop} {l : List OptF} {code : Int} {data : List Int} (hl : ∀ x ∈ l, q x.f1) (hd : q data) : ∀ x ∈ opPut l code data, q x.f1 := by
  intro x hx
  unfold opPut at hx
  split at hx
  · rcases List.mem_append.1 hx with hx | hx
    · rcases List.mem_append.1 hx with hx | hx
      · exact hl x (List.mem_of_mem_take hx)
      · rw [List.mem_singleton.1 hx]; exact hd
    · exact hl x (List.mem_of_mem_drop (List.mem_filter.1 hx).1)
  · rcases List.mem_append.1 hx with hx | hx
    · exact hl x hx
    · rw [List.mem_singleton.1 hx]; exact hd
theorem opPut_len (l : List OptF) (code : Int) (data : List Int) : (opPut l code data).length ≤ l.length + 1 := by
  unfold opPut
  split
  · have h1 := List.length_filter_le (fun x : OptF => !(x.f0 == code)) (l.drop ((ixOf (fun x => x.f0 == code) l).toNat + 1))
    rw [List.length_drop] at h1
    simp only [List.length_append, List.length_cons, List.length_nil, List.length_take]
    have h2 : ixOf (fun x => x.f0 == code) l < l.length ∨ ixOf (fun x => x.f0 == code) l = -1 := by
      unfold ixOf
      split <;> omega
    omega
  · simp
/-- What the options are where the packet is right, and what a put makes of them. -/
theorem put_facts {l9 : List OptP} {lb : List Int} (ke : (PO.encR l9).2 = 0) (hb9 : ∀ x ∈ l9, PQ.bytesL x.f1) (hlb : lb.length ≤ 255) (hbb : PQ.bytesL lb) :
    l9.length ≤ 512 ∧ (∀ x ∈ l9, x.f1.length ≤ 255) ∧ PO.few (opPut l9 121 lb) ∧ (∀ x ∈ opPut l9 121 lb, PQ.bytesL x.f1) ∧ (∀ x ∈ opPut l9 121 lb, x.f1.length ≤ 255) := by
  obtain ⟨ok, hlen, _⟩ := PQ.encR_ok ke
  have h2 := PQ.enc_two l9
  have h3 : ∀ x ∈ l9, x.f1.length ≤ 255 := fun x hx => (ok x hx).2.2
  have h4 : ∀ x ∈ opPut l9 121 lb, x.f1.length ≤ 255 := opPut_all (q := fun d => d.length ≤ 255) h3 hlb
  have h5 := opPut_len l9 121 lb
  exact ⟨by omega, h3, ⟨by omega, fun x hx => by have := h4 x hx; omega⟩, opPut_all (q := PQ.bytesL) hb9 hbb, h4⟩
set_option maxHeartbeats 8000000 in
set_option maxRecDepth 100000 in
theorem lessortop_TopRoutes.calls (a0 a1 a2 a3 a4 a5 a6 a7 : Int) (A8 : Option Addr) (c8 : Nat) (l8 : List Int) (A9 : Option Addr) (c9 : Nat) (l9 : List OptP) (A1 : Option Addr) (c1 : Nat) (l1 : List RtE) (r : Bool) (w : World) (h8 : (Kd.int .u8).C w A8 l8.length l8) (hc8 : l8.length ≤ c8) (h9 : Kd.C k53 w A9 l9.length l9) (hc9 : l9.length ≤ c9) (hl : Kd.C k44 w A1 l1.length l1) (hc : l1.length ≤ c1) (h : lessortop_TopRoutes.f a0 a1 a2 a3 a4 a5 a6 a7 l8 l9 l1 = some r) :
    Calls Tryd.prog 3 #[.agg #[.int .i64 a0, .int .u32 a1, .int .i64 a2, .int .i64 a3, .int .u32 a4, .int .u32 a5, .int .u32 a6, .int .u32 a7, .slice A8 l8.length c8, .slice A9 l9.length c9], .slice A1 l1.length c1] w fun e w' => e = .returned (.bool r) ∧ Below w.heap.size w w' := by
  unfold lessortop_TopRoutes.f at h
  split at h
  case isFalse => cases h
  rename_i hcond
  obtain ⟨hu, hb8, hb9, hfew, hl1, hru⟩ := hcond
  obtain rfl : true = r := Option.some.inj h
  clear h
  have H8 := Lib.hid h8
  have H9 := Lib.hid h9
  have HL := Lib.hid hl
  have HC := Lib.hid hc
  have HU := Lib.hid hu
  have HC8 := Lib.hid hc8
  have HC9 := Lib.hid hc9
  have HB8 := Lib.hid hb8
  have HB9 := Lib.hid hb9
  have HFEW := Lib.hid hfew
  have HL1 := Lib.hid hl1
  have HRU := Lib.hid hru
  have HRT := Lib.hid (PP.right_eq a0 a1 a2 a3 a4 a5 a6 a7 l8 l9 hfew 1048600 (Nat.le_refl _))
  clear h8 h9 hl hc hu hc8 hc9 hb8 hb9 hfew hl1 hru
  go_enter Tryd.func3, Tryd.ntmps3
  go_upto_region 1 with fail
  obtain ⟨bp, hbp⟩ : ∃ b, w.heap.size = b := ⟨_, rfl⟩
  obtain ⟨w1, hw1⟩ : ∃ W, w.alloc (.cells #[.int .i64 a0, .int .u32 a1, .int .i64 a2, .int .i64 a3, .int .u32 a4, .int .u32 a5, .int .u32 a6, .int .u32 a7, .slice A8 l8.length c8, .slice A9 l9.length c9] 27) = W := ⟨_, rfl⟩
  have HP : Hid (w1.heap[bp]? = some (.cells #[.int .i64 a0, .int .u32 a1, .int .i64 a2, .int .i64 a3, .int .u32 a4, .int .u32 a5, .int .u32 a6, .int .u32 a7, .slice A8 l8.length c8, .slice A9 l9.length c9] 27 (0, 0))) := by show _ = _; rw [← hw1, ← hbp]; exact blk_new _ _
  have HW : Hid (Below w.heap.size w w1) := by show Below _ _ _; rw [← hw1]; exact below_alloc (Below.refl _ _) _
  have HBP : Hid (w.heap.size = bp) := hbp
  try rw [hbp]
  try rw [hw1]
  clear hw1 hbp
  go_wp2_with fail
  -- @enc0
  refine (route_Encode.calls none 0 [] [] 0 _ (Kd.C_nil _ _) (Nat.le_refl _) enc_none).mono ?_
  rintro e W ⟨v0, rfl, hv0, hb⟩
  obtain ⟨A4, c4, rfl⟩ := Kd.R_slice hv0
  clear hv0
  have HP2 : Hid (_ = some _) := (hb.block _ (blk_lt HP.out)).trans HP.out
  have HW2 := Lib.hid (HW.out.trans (hb.mono HW.out.size))
  clear hb HP HW
  have HP := HP2
  have HW := HW2
  clear HP2 HW2
  simp only [List.length_nil]
  go_wp2_with fail
  -- @right0
  refine (packet_Right.calls 1048600 1 0 0 0 0 0 0 0 _ _ [1] none 0 [] true _ (one_C _) (Nat.le_refl _) (Kd.C_nil _ _) (Nat.le_refl _) right_none).mono ?_
  rintro e W2 ⟨rfl, hb⟩
  have hb2 := (below_alloc (Below.refl W.heap.size W) (.cells #[.int .u8 1] 5)).trans (hb.mono (below_alloc (Below.refl W.heap.size W) (.cells #[.int .u8 1] 5)).size)
  have HP2 : Hid (_ = some _) := (hb2.block _ (blk_lt HP.out)).trans HP.out
  have HW2 := Lib.hid (HW.out.trans (hb2.mono HW.out.size))
  clear hb hb2 HP HW
  have HP := HP2
  have HW := HW2
  clear HP2 HW2
  go_wp2_with fail
  -- @enc1
  have HEQ := Lib.hid (PR.enc_eq l1 HL1.out HRU.out)
  rcases encRR_cases l1 with ⟨e1, he1, hor⟩ | ⟨he1, hokr, hlb⟩
  · rcases hor with rfl | rfl
    · refine (route_Encode.calls A1 c1 l1 [] 1 _ (Kd.C_below HL.out HW.out) HC.out (HEQ.out.trans (congrArg some he1))).mono ?_
      rintro e W ⟨v0, rfl, hv0, hb⟩
      obtain ⟨A5, c5, rfl⟩ := Kd.R_slice hv0
      clear hv0 he1 HEQ HRT
      have HW2 := Lib.hid (HW.out.trans (hb.mono HW.out.size))
      clear hb HP HW
      simp only [List.length_nil]
      go_wp2_with fail
      go_ret
      exact ⟨rfl, HW2.out⟩
    · refine (route_Encode.calls A1 c1 l1 [] 3 _ (Kd.C_below HL.out HW.out) HC.out (HEQ.out.trans (congrArg some he1))).mono ?_
      rintro e W ⟨v0, rfl, hv0, hb⟩
      obtain ⟨A5, c5, rfl⟩ := Kd.R_slice hv0
      clear hv0 he1 HEQ HRT
      have HW2 := Lib.hid (HW.out.trans (hb.mono HW.out.size))
      clear hb HP HW
      simp only [List.length_nil]
      go_wp2_with fail
      go_ret
      exact ⟨rfl, HW2.out⟩
  have HRD := Lib.hid (rd_enc hokr HRU.out hlb)
  have HBB := Lib.hid (rtEnc_bytes l1)
  have HFIVE : Hid (l1.length ≤ 255) := by
    show _ ≤ _
    have : ∀ l : List RtE, l.length ≤ (rtEnc l).length := by
      intro l
      induction l with
      | nil => simp
      | cons x l ih =>
        have e : rtEnc (x :: l) = rtEnc1 x ++ rtEnc l := by unfold rtEnc; rw [List.map_cons, List.flatten_cons]
        rw [e, List.length_append, List.length_cons]
        have : 1 ≤ (rtEnc1 x).length := by unfold rtEnc1; simp
        omega
    have := this l1
    omega
  obtain ⟨lb, hlbe⟩ : ∃ lb, rtEnc l1 = lb := ⟨_, rfl⟩
  rw [hlbe] at hlb he1 HRD HBB
  have HLB := Lib.hid hlb
  clear hlb hokr hlbe
  refine (route_Encode.calls A1 c1 l1 lb 0 _ (Kd.C_below HL.out HW.out) HC.out (HEQ.out.trans (congrArg some he1))).mono ?_
  rintro e W ⟨v0, rfl, hv0, hb⟩
  obtain ⟨A5, c5, rfl⟩ := Kd.R_slice hv0
  have HD := Lib.hid (Kd.R_reads' hv0).2.2
  have HCD := Lib.hid (Kd.R_reads' hv0).2.1
  clear hv0 he1 HEQ
  have HP2 : Hid (_ = some _) := (hb.block _ (blk_lt HP.out)).trans HP.out
  have HW2 := Lib.hid (HW.out.trans (hb.mono HW.out.size))
  clear hb HP HW
  have HP := HP2
  have HW := HW2
  clear HP2 HW2
  by_cases h100 : 100 < l1.length
  case pos =>
    have q1 : ((100 : Int) < (l1.length : Int)) = True := eq_true (by omega)
    have q2 : decide ((100 : Int) < (l1.length : Int)) = true := decide_eq_true (by omega)
    clear h100
    go_wp2_with fail
    go_ret
    exact ⟨rfl, HW.out⟩
  have q1 : ((100 : Int) < (l1.length : Int)) = False := eq_false (by omega)
  have q2 : decide ((100 : Int) < (l1.length : Int)) = false := decide_eq_false (by omega)
  clear h100
  have y0 := (blk_cell HP.out 0).trans rfl
  have y1 := (blk_cell HP.out 1).trans rfl
  have y2 := (blk_cell HP.out 2).trans rfl
  have y3 := (blk_cell HP.out 3).trans rfl
  have y4 := (blk_cell HP.out 4).trans rfl
  have y5 := (blk_cell HP.out 5).trans rfl
  have y6 := (blk_cell HP.out 6).trans rfl
  have y7 := (blk_cell HP.out 7).trans rfl
  have y8 := (blk_cell HP.out 8).trans rfl
  have y9 := (blk_cell HP.out 9).trans rfl
  go_wp2_with fail
  -- @right1
  by_cases hk : PP.okPk a0 a2 a3 l8 l9
  case neg =>
    rw [decide_eq_false hk] at HRT
    clear hk
    refine (packet_Right.calls 1048600 a0 a1 a2 a3 a4 a5 a6 a7 A8 c8 l8 A9 c9 l9 false _ (Kd.C_below H8.out HW.out) HC8.out (Kd.C_below H9.out HW.out) HC9.out HRT.out).mono ?_
    rintro e W2 ⟨rfl, hb⟩
    have HW2 := Lib.hid (HW.out.trans (hb.mono HW.out.size))
    clear hb HP HW y0 y1 y2 y3 y4 y5 y6 y7 y8 y9 HRT
    go_wp2_with fail
    go_ret
    exact ⟨rfl, HW2.out⟩
  rw [decide_eq_true hk] at HRT
  obtain ⟨F1, F2, F3, F4, F5⟩ := put_facts hk.2.2.2.2 HB9.out HLB.out HBB.out
  have HF1 := Lib.hid F1
  have HF2 := Lib.hid F2
  have HF3 := Lib.hid F3
  have HF4 := Lib.hid F4
  have HF5 := Lib.hid F5
  have HPF := Lib.hid (put_found 121 lb l9)
  clear F1 F2 F3 F4 F5 hk
  refine (packet_Right.calls 1048600 a0 a1 a2 a3 a4 a5 a6 a7 A8 c8 l8 A9 c9 l9 true _ (Kd.C_below H8.out HW.out) HC8.out (Kd.C_below H9.out HW.out) HC9.out HRT.out).mono ?_
  rintro e W2 ⟨rfl, hb⟩
  clear q1 q2 y0 y1 y2 y3 y4 y5 y6 y7 y8 y9 HRT HFEW
  have HP2 : Hid (_ = some _) := (hb.block _ (blk_lt HP.out)).trans HP.out
  have HD2 := Lib.hid (Kd.C_below HD.out hb)
  have HW2 := Lib.hid (HW.out.trans (hb.mono HW.out.size))
  clear hb HP HW HD
  have HP := HP2
  have HW := HW2
  have HD := HD2
  clear HP2 HW2 HD2
  have y9 := (blk_cell HP.out 9).trans rfl
  go_wp2_with fail
  -- @put
  have hF : Kd.F k53 W2 (fun k => k ≠ bp) A9 l9.length l9 := Kd.F_below (Kd.F_mono (Kd.C_F opt_heap H9.out) (fun k hk => by have := HBP.out; omega)) HW.out
  refine (put_ok (fun k => k ≠ bp) A9 c9 l9 121 A5 c5 lb W2 hF (fun k hk => by have := blk_lt HP.out; omega) HC9.out (by have := HF1.out; omega) (fun x hx => by have := HF2.out x hx; omega) HD.out HCD.out (by have := HLB.out; omega)).mono ?_
  rintro e W3 ⟨v0, rfl, hn, hb⟩
  obtain ⟨A6, c6, rfl⟩ := Kd.N_slice hn
  have HN := Lib.hid hn
  clear y9 hF hn HD HCD
  have HP2 : Hid (_ = some _) := (hb.block _ (blk_lt HP.out)).trans HP.out
  have HW2 := Lib.hid (HW.out.trans (hb.mono HW.out.size))
  clear hb HP HW
  have HP := HP2
  have HW := HW2
  clear HP2 HW2
  obtain ⟨m9, hm9⟩ : ∃ m, opPut l9 121 lb = m := ⟨_, rfl⟩
  rw [hm9] at HN HF3 HF4 HF5 HPF ⊢
  clear hm9 HF1 HF2
  have y9 := (blk_cell HP.out 9).trans rfl
  have f9 := blk_frozen HP.out 9
  go_upto_region 8 with fail
  -- @stored
  clear y9 f9
  obtain ⟨V, hV⟩ : ∃ V, W3.setCell ⟨bp, 9, none⟩ (.slice A6 m9.length c6) = V := ⟨_, rfl⟩
  have HP2 : Hid (V.heap[bp]? = some (.cells #[.int .i64 a0, .int .u32 a1, .int .i64 a2, .int .i64 a3, .int .u32 a4, .int .u32 a5, .int .u32 a6, .int .u32 a7, .slice A8 l8.length c8, .slice A6 m9.length c6] 27 (0, 0))) := by show _ = _; rw [← hV]; exact blk_set HP.out 9 _
  have HN2 := Lib.hid (show ON V _ _ _ _ by rw [← hV]; exact Kd.N_far HN.out (fun k hk => hk) _)
  have HW2 : Hid (Below w.heap.size w V) := by show Below _ _ _; rw [← hV]; exact below_set HW.out (by have := HBP.out; omega)
  clear HP HN HW
  have HP := HP2
  have HN := HN2
  have HW := HW2
  clear HP2 HN2 HW2
  rw [hV]
  clear hV
  have y0 := (blk_cell HP.out 0).trans rfl
  have y1 := (blk_cell HP.out 1).trans rfl
  have y2 := (blk_cell HP.out 2).trans rfl
  have y3 := (blk_cell HP.out 3).trans rfl
  have y4 := (blk_cell HP.out 4).trans rfl
  have y5 := (blk_cell HP.out 5).trans rfl
  have y6 := (blk_cell HP.out 6).trans rfl
  have y7 := (blk_cell HP.out 7).trans rfl
  have y8 := (blk_cell HP.out 8).trans rfl
  have y9 := (blk_cell HP.out 9).trans rfl
  go_wp2_with fail
  -- @enc2
  have HM := Lib.hid (Kd.N_reads' HN.out).2.2
  have HCM := Lib.hid (Kd.N_reads' HN.out).2.1
  clear HN
  have HPE := Lib.hid (PP.pk_encode_eq a0 a1 a2 a3 a4 a5 a6 a7 HU.out l8 m9 HF3.out 1048600 (Nat.le_refl _))
  rcases PQ.enc_back a0 a1 a2 a3 a4 a5 a6 a7 l8 m9 HU.out HB8.out HF4.out with henc | ⟨cs, henc, gcb, gcl, gcd⟩
  · refine (packet_Encode.calls 1048600 a0 a1 a2 a3 a4 a5 a6 a7 A8 c8 l8 A6 c6 m9 [] 1 V (Kd.C_below H8.out HW.out) HC8.out HM.out HCM.out (HPE.out.trans (congrArg some henc))).mono ?_
    rintro e W ⟨v0, rfl, hv0, hb⟩
    obtain ⟨A7, c7, rfl⟩ := Kd.R_slice hv0
    clear hv0 henc HPE y0 y1 y2 y3 y4 y5 y6 y7 y8 y9
    have HW2 := Lib.hid (HW.out.trans (hb.mono HW.out.size))
    clear hb HP HW HM
    simp only [List.length_nil]
    go_wp2_with fail
    go_ret
    exact ⟨rfl, HW2.out⟩
  refine (packet_Encode.calls 1048600 a0 a1 a2 a3 a4 a5 a6 a7 A8 c8 l8 A6 c6 m9 cs 0 V (Kd.C_below H8.out HW.out) HC8.out HM.out HCM.out (HPE.out.trans (congrArg some henc))).mono ?_
  rintro e W4 ⟨v0, rfl, hv0, hb⟩
  obtain ⟨A7, c7, rfl⟩ := Kd.R_slice hv0
  have HD := Lib.hid (Kd.R_reads' hv0).2.2
  have HCD := Lib.hid (Kd.R_reads' hv0).2.1
  clear hv0 henc HPE y0 y1 y2 y3 y4 y5 y6 y7 y8 y9
  have HW2 := Lib.hid (HW.out.trans (hb.mono HW.out.size))
  clear hb HP HW HM HCM
  have HW := HW2
  clear HW2
  have GPD := Lib.hid ((PQ.decode_eq cs gcb gcl).trans (congrArg some gcd))
  clear gcb gcl gcd
  go_wp2_with fail
  -- @dec
  refine (packet_Decode.calls A7 c7 cs a0 a1 a2 a3 a4 a5 a6 a7 l8 m9 0 _ HD.out HCD.out GPD.out).mono ?_
  rintro e W5 ⟨v8, v9, rfl, hv8, hv9, hb⟩
  obtain ⟨A10, c10, rfl⟩ := Kd.R_slice hv8
  obtain ⟨A11, c11, rfl⟩ := Kd.S_slice hv9
  have HM := Lib.hid (Kd.S_reads' hv9).2.2
  have HCM := Lib.hid (Kd.S_reads' hv9).2.1
  clear hv8 hv9 HD HCD GPD
  have HW2 := Lib.hid (HW.out.trans (hb.mono HW.out.size))
  clear hb HW
  have HW := HW2
  clear HW2
  go_upto_region 12 with fail
  -- @q
  obtain ⟨bq, hbx⟩ : ∃ b, W5.heap.size = b := ⟨_, rfl⟩
  obtain ⟨V2, hV⟩ : ∃ V, W5.alloc (.cells #[.int .i64 a0, .int .u32 a1, .int .i64 a2, .int .i64 a3, .int .u32 a4, .int .u32 a5, .int .u32 a6, .int .u32 a7, .slice A10 l8.length c10, .slice A11 m9.length c11] 27) = V := ⟨_, rfl⟩
  have HQ : Hid (V2.heap[bq]? = some (.cells #[.int .i64 a0, .int .u32 a1, .int .i64 a2, .int .i64 a3, .int .u32 a4, .int .u32 a5, .int .u32 a6, .int .u32 a7, .slice A10 l8.length c10, .slice A11 m9.length c11] 27 (0, 0))) := by show _ = _; rw [← hV, ← hbx]; exact blk_new _ _
  have HM2 := Lib.hid (show Kd.C _ V2 _ _ _ by rw [← hV]; exact Kd.C_alloc HM.out _)
  have HW2 : Hid (Below w.heap.size w V2) := by show Below _ _ _; rw [← hV]; exact below_alloc HW.out _
  clear HW HM
  have HW := HW2
  have HM := HM2
  clear HW2 HM2
  rw [hbx]
  rw [hV]
  clear hV hbx
  have y9 := (blk_cell HQ.out 9).trans rfl
  go_wp2_with fail
  -- @find
  refine (option_Find.calls A11 c11 m9 121 lb true _ HM.out HCM.out ((if_pos (fun x hx => by have := HF5.out x hx; omega)).trans (congrArg some HPF.out))).mono ?_
  rintro e W6 ⟨v0, rfl, hv0, hb⟩
  obtain ⟨A12, c12, rfl⟩ := Kd.R_slice hv0
  have HD := Lib.hid (Kd.R_reads' hv0).2.2
  have HCD := Lib.hid (Kd.R_reads' hv0).2.1
  clear hv0 y9
  have HW2 := Lib.hid (HW.out.trans (hb.mono HW.out.size))
  clear hb HW HQ HM HCM
  have HW := HW2
  clear HW2
  go_wp2_with fail
  -- @rdec
  refine (route_Decode.calls A12 c12 lb l1 0 _ HD.out HCD.out ((PR.dec_eq lb HBB.out (by have := HLB.out; omega)).trans (congrArg some HRD.out))).mono ?_
  rintro e W7 ⟨v0, rfl, hv0, hb⟩
  obtain ⟨A13, c13, rfl⟩ := Kd.R_slice hv0
  have HM := Lib.hid (Kd.R_reads' hv0).2.2
  have HCM := Lib.hid (Kd.R_reads' hv0).2.1
  clear hv0
  have HW2 := Lib.hid (HW.out.trans (hb.mono HW.out.size))
  clear hb HW HD HCD
  have HW := HW2
  clear HW2
  go_wp2_with fail
  -- @same
  refine (lessorref25_Same.calls 5000 A1 c1 l1 A13 c13 l1 true _ (Kd.C_below HL.out HW.out) HC.out HM.out HCM.out (PR.same_refl l1 (by have := HFIVE.out; omega) 5000 (by have := HFIVE.out; omega))).mono ?_
  rintro e W8 ⟨rfl, d8⟩
  have HW2 := Lib.hid (HW.out.trans (d8.below.mono HW.out.size))
  clear d8 HW HM HCM
  go_wp2_with fail
  go_ret
  exact ⟨rfl, HW2.out⟩
end Go.Proofs.YtdpoknfidlekbaaDoor
end
