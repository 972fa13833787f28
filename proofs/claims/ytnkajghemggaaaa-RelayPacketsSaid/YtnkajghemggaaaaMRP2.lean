/-
  relay.read: the tags of data, by take, with its panic recovered. Condition: bytes, fewer than 2^40.
  relay.Decode in the print's form.
  Printed: PrF12.
  Tags as bytes, over lists: what relay.Encode, relay.Decode and the reference's compute. No condition of their own.
  lessorref03.Same of two packets that are the same. Condition: no more than a million options.
  option.of, slices.IndexFunc of options by any test, and option.Find: the data of the first option of a code. Conditions: fewer than 2^47 bytes of data each.
  What the proofs on a put of options share: rows of options of the call's own, and what a put makes of them. No condition.
  slices.Clone of options, and options that share no memory with others. Conditions: no more than a million, fewer than 2^47 bytes of data each.
  slices.DeleteFunc of options of the call's own, by any test. Conditions: no more than a million.
  slices.Concat of options: all of them, one behind the other. Conditions: at least one, no more than two millions in all.
-/
import Derived.Test.YtnkajghemggaaaaMRP1
import Derived.Test.YtnkajghemggaaaaWNEv
import Derived.Lib.Hide
import Derived.RangeFuncBox
import Derived.WalkLawsBesides

section
namespace Go.Proofs.Ytnkajghemggaaaa
open Go.RowKit Go.Proofs.Ytnkajghemggaaaa.Pr Go.Proofs.YtnkajghemggaaaaW.PrintWords Go.Proofs.YtnkajghemggaaaaW.PrintLast Go.Proofs.YtnkajghemggaaaaW.PrintMore
attribute [local go_sem] max2_int min2_int max_two min_two max_three min_three max_four min_four
set_option linter.unusedVariables false
set_option linter.unusedSimpArgs false

abbrev OptR := S48
/-! ### what is read -/
def rdL (l : List Int) (acc : List OptR) : Option (List OptR) :=
  match l with
  | [] => some acc
  | [_] => none
  | h :: n :: r => if n.toNat ≤ r.length ∧ h ≠ 0 then rdL (r.drop n.toNat) (acc ++ [⟨h, r.take n.toNat⟩]) else none
termination_by l.length
decreasing_by simp only [List.length_cons, List.length_drop]; omega
def rdRes (l : List Int) : List OptR × Bool := match rdL l [] with | some r => (r, decide (0 < r.length)) | none => ([], false)
theorem rdRes_none {l : List Int} (h : rdL l [] = none) : rdRes l = ([], false) := by unfold rdRes; rw [h]
theorem rdRes_some {l : List Int} {r : List OptR} (h : rdL l [] = some r) : rdRes l = (r, decide (0 < r.length)) := by unfold rdRes; rw [h]

/-- The door: no deferred call is left, and the results stand in their cells. -/
theorem read_leaves {tmps : Array Value} {R : Ending → World → Prop} {W : World} {bl bf : Nat} {v : Value} {b : Bool} (h2 : tmps[2]? = some (.pointer (some ⟨bl, 0, none⟩))) (h3 : tmps[3]? = some (.pointer (some ⟨bf, 0, none⟩)))
    (hl : Boxed W bl 26 v) (hf : Boxed W bf 4 (.bool b)) (hv : ∃ A n c, v = .slice A n c) (h : R (.returned (.tuple #[v, .bool b])) W) : Leaves Try.prog Try.f27 tmps R [] .returning W := by
  obtain ⟨A, n, c, rfl⟩ := hv
  refine ⟨_, ?_, h⟩
  have y1 := hl.cell
  have y2 := hf.cell
  simp [results, Try.results27, go_sem, h2, h3, y1, y2]

theorem boxed_far {W : World} {b q : Nat} {t : TypeId} {v : Value} (h : Boxed W b t v) (hne : b ≠ q) (u : Value) : Boxed (W.setCell ⟨q, 0, none⟩ u) b t v := (Below.heap_setCell W ⟨q, 0, none⟩ u b hne).trans h
theorem read_ret {tmps : Array Value} {R : Ending → World → Prop} {W : World} {bl bf : Nat} {A : Option Addr} {n c : Nat} {b : Bool} (h2 : tmps[2]? = some (.pointer (some ⟨bl, 0, none⟩))) (h3 : tmps[3]? = some (.pointer (some ⟨bf, 0, none⟩)))
    (hl : Boxed W bl 26 (.slice A n c)) (hf : Boxed W bf 4 (.bool b)) (h : R (.returned (.tuple #[.slice A n c, .bool b])) (W.alloc (.cells #[] 67))) :
    bodyPostD Try.prog Try.f27 R .ret { tmps := tmps, defers := [{ target := .fn (.func 41) #[.pointer (some ⟨bl, 0, none⟩), .pointer (some ⟨bf, 0, none⟩)], args := #[] }] } W := by
  show Leaves _ _ _ _ _ _ _
  refine leaves_cons (f := 41) (args := #[.pointer (some ⟨bl, 0, none⟩), .pointer (some ⟨bf, 0, none⟩)]) (by simp) (by simp [go_sem]) ?_
  refine (catch_none bl bf _).mono ?_
  rintro e u' w'' ⟨rfl, rfl, rfl⟩
  exact read_leaves h2 h3 (hl.alloc _) (hf.alloc _) ⟨_, _, _, rfl⟩ h
theorem read_panic {tmps : Array Value} {R : Ending → World → Prop} {W : World} {bl bf : Nat} {v : Value} {b : Bool} (h2 : tmps[2]? = some (.pointer (some ⟨bl, 0, none⟩))) (h3 : tmps[3]? = some (.pointer (some ⟨bf, 0, none⟩)))
    (hl : Boxed W bl 26 v) (hf : Boxed W bf 4 (.bool b)) (hne : bf ≠ bl) (h : R (.returned (.tuple #[.slice none 0 0, .bool false])) (((W.alloc (.cells #[] 67)).setCell ⟨bl, 0, none⟩ (.slice none 0 0)).setCell ⟨bf, 0, none⟩ (.bool false))) :
    bodyPostD Try.prog Try.f27 R (.panic [{ v := .iface 67 (.agg #[]), recovered := false }]) { tmps := tmps, defers := [{ target := .fn (.func 41) #[.pointer (some ⟨bl, 0, none⟩), .pointer (some ⟨bf, 0, none⟩)], args := #[] }] } W := by
  show Leaves _ _ _ _ _ _ _
  refine leaves_cons (f := 41) (args := #[.pointer (some ⟨bl, 0, none⟩), .pointer (some ⟨bf, 0, none⟩)]) (by simp) (by simp [go_sem]) ?_
  refine (catch_cut bl bf v b [] _ hl hf hne).mono ?_
  rintro e u' w'' ⟨rfl, rfl, rfl⟩
  show Leaves _ _ _ _ [] .returning _
  exact read_leaves h2 h3 (boxed_far ((hl.alloc _).set _) (Ne.symm hne) _) ((boxed_far (hf.alloc _) hne _).set _) ⟨_, _, _, rfl⟩ h
/-- What is behind a cut of the front. -/
theorem rd_step {h n : Int} {r : List Int} {acc : List OptR} (h1 : n.toNat ≤ r.length) (h2 : h ≠ 0) : rdL (h :: n :: r) acc = rdL (r.drop n.toNat) (acc ++ [⟨h, r.take n.toNat⟩]) := by
  rw [rdL, if_pos ⟨h1, h2⟩]
theorem rd_stop {h n : Int} {r : List Int} {acc : List OptR} (h1 : ¬ (n.toNat ≤ r.length ∧ h ≠ 0)) : rdL (h :: n :: r) acc = none := by
  rw [rdL, if_neg h1]
theorem rd_lone {h : Int} {acc : List OptR} : rdL [h] acc = none := by rw [rdL]

theorem leaves_congr {P : Program} {fn : Func} {t1 t2 : Array Value} {R : Ending → World → Prop} (h : results fn t1 = results fn t2) : ∀ ds u w, Leaves P fn t1 R ds u w → Leaves P fn t2 R ds u w
  | [], .returning, w, hh => by
    obtain ⟨v, h1, h2⟩ := hh
    exact ⟨v, h ▸ h1, h2⟩
  | [], .panicking _, _, hh => hh
  | [], .run, _, hh => hh
  | d :: ds, u, w, hh => by
    obtain ⟨h1, fv, cap, f, args, h2, h3, h4⟩ := hh
    refine ⟨h1, fv, cap, f, args, h2, h3, h4.mono fun e u' w' h5 => ?_⟩
    cases e with
    | returned _ => exact leaves_congr h ds _ _ h5
    | panicked _ => exact leaves_congr h ds _ _ h5
    | outgrown => exact h5
theorem put_quiet {R : Ending → World → Prop} {v : Value} (N : Nat) (h2 : N ≠ 2) (h3 : N ≠ 3) : ∀ c a w, bodyPostD Try.prog Try.f27 R (.panic c) (a.put (some N) v) w → bodyPostD Try.prog Try.f27 R (.panic c) a w := by
  intro c a w h
  refine leaves_congr ?_ _ _ _ h
  simp [results, Try.results27, Act.put, h2, h3]
theorem rinfo : (Try.prog.info? 48).map (fun i => (i.zero, i.size, i.bytes)) = some (some (.agg #[.int .i64 0, .slice none 0 0]), 2, 32) := by kernel_rfl
def lenOfV : Value → Nat | .slice _ n _ => n | _ => 0
set_option maxHeartbeats 4000000 in
set_option maxRecDepth 100000 in
theorem read_calls (A : Option Addr) (c : Nat) (l : List Int) (w : World) (hC : (Kd.int .u8).C w A l.length l) (hc : l.length ≤ c) (hbytes : ∀ x ∈ l, 0 ≤ x ∧ x ≤ 255) (hlen : l.length < 1099511627776) :
    Calls Try.prog 27 #[.slice A l.length c] w fun e w' => ∃ v, e = .returned (.tuple #[v, .bool (rdRes l).2]) ∧ Kd.S k48 48 w' w.heap.size (fun _ => True) v (rdRes l).1 ∧ Below w.heap.size w w' := by
  have hmf : ∀ (fn : Fn) (first cap : Array Value) (w : World), (Instr.makeFunc fn first cap).run Try.prog w = .ok (.func fn first cap) w := fun _ _ _ _ => rfl
  have HC := Lib.hid hC
  have HBY := Lib.hid hbytes
  clear hC hbytes
  go_enter_defers Try.func27, Try.ntmps27
  go_upto_region 1 with fail
  obtain ⟨bl, hbl⟩ : ∃ b, w.heap.size = b := ⟨_, rfl⟩
  obtain ⟨bf, hbf⟩ : ∃ b, bl + 1 = b := ⟨_, rfl⟩
  obtain ⟨w1, hw1⟩ : ∃ W, (w.alloc (.cells #[.slice none 0 0] 26)).alloc (.cells #[.bool false] 4) = W := ⟨_, rfl⟩
  have HL1 : Hid (Boxed w1 bl 26 (.slice none 0 0)) := by show Boxed _ _ _ _; rw [← hw1, ← hbl]; exact (Boxed.new _ _ _).alloc _
  have HF1 : Hid (Boxed w1 bf 4 (.bool false)) := by
    show Boxed _ _ _ _
    have := Boxed.new (w.alloc (.cells #[.slice none 0 0] 26)) 4 (.bool false)
    rw [← hw1, ← hbf, ← hbl]
    simpa using this
  have HB1 : Hid (Below w.heap.size w w1) := by show Below _ _ _; rw [← hw1]; exact below_alloc (below_alloc (Below.refl _ _) _) _
  have HBL : Hid (w.heap.size ≤ bl) := Nat.le_of_eq hbl
  have HBF : Hid (bl < bf) := by show _ < _; omega
  have HS1 : Hid (bf < w1.heap.size) := by show _ < _; rw [← hw1, ← hbf, ← hbl]; simp
  rw [hbl, hbf, hw1]
  clear hbl hbf hw1
  go_wp2_with fail
  have CK := Lib.hid catch_cut
  have CN := Lib.hid catch_none
  go_loopw [0] (fun at_ wr => ∃ (l' : List Int) (acc : List OptR) (v : Value) (A' : Option Addr) (c' : Nat), at_ = .slice A' l'.length c' ∧ l'.length ≤ c' ∧ l'.length ≤ l.length ∧ acc.length + l'.length ≤ l.length ∧ Hid (∀ x ∈ l', 0 ≤ x ∧ x ≤ 255) ∧ Hid (rdL l' acc = rdL l []) ∧ Hid ((Kd.int .u8).C w A' l'.length l') ∧
      Hid (Kd.S k48 48 wr (bf + 1) (fun _ => True) v acc) ∧ Hid (Boxed wr bl 26 v) ∧ Hid (Boxed wr bf 4 (.bool false)) ∧ Hid (Below w.heap.size w wr)) (fun at_ _ => lenOfV at_)
  case atStart => exact ⟨l, [], _, A, c, rfl, hc, Nat.le_refl _, by simp, HBY, by rfl, HC, Lib.hid (Kd.S_nil _ _ _ _ _), HL1, HF1, HB1⟩
  case round =>
    obtain ⟨l', acc, v, A', c', rfl, hc', hl1, hl2, HBY', HP, HC', HV, HL, HF, HB⟩ := hrel
    clear HC HL1 HF1 HB1
    obtain ⟨Av, cv, rfl⟩ := Kd.S_slice HV.out
    have y1 := HL.out.cell
    have z1 := HL.out.frozen
    have y2 := HF.out.cell
    have z2 := HF.out.frozen
    have hne : bf ≠ bl := by have := HBF.out; omega
    have y3 : ∀ u, (wr.setCell ⟨bl, 0, none⟩ u).cell? ⟨bf, 0, none⟩ = some (.bool false) := fun u => (World.cell?_setCell_other _ _ _ _ (by intro e; injection e with e; exact hne e.symm)).trans y2
    have HNE := Lib.hid hne
    clear hne
    by_cases h0 : l' = []
    · subst h0
      have hp : rdL [] acc = some acc := by unfold rdL; rfl
      have HRS := Lib.hid (rdRes_some (HP.out.symm.trans hp))
      clear hp
      go_wp2_with fail
      refine read_ret rfl rfl (boxed_far (HL.out.set _) (Ne.symm HNE.out) _) ((boxed_far HF.out HNE.out _).set _) ⟨_, by rw [HRS.out], ?_, ?_⟩
      · rw [HRS.out]
        have h1 : Kd.S k48 48 wr (bf + 1) (fun k => bf < k) (.slice Av acc.length cv) acc := Kd.S_mono (Kd.S_bound HV.out) (fun k hk => by have := hk.2.1; omega)
        have h2 := Kd.S_far (Kd.S_far h1 (p := ⟨bl, 0, none⟩) (fun k hk => by have := HBF.out; show k ≠ bl; omega) (.slice Av acc.length cv)) (p := ⟨bf, 0, none⟩) (fun k hk => by show k ≠ bf; omega) (.bool (decide (0 < acc.length)))
        exact Kd.S_mono (Kd.S_lower (Kd.S_alloc h2 _) (by have := HBL.out; have := HBF.out; omega)) (fun _ _ => trivial)
      · exact below_alloc (below_set (below_set HB.out HBL.out) (by have := HBL.out; have := HBF.out; omega)) _
    · obtain ⟨h, l2, rfl⟩ : ∃ h l2, l' = h :: l2 := by
        cases l' with
        | nil => exact absurd rfl h0
        | cons h l2 => exact ⟨h, l2, rfl⟩
      clear h0
      have p0 : (((h :: l2).length : Int) > 0) = True := eq_true (by simp only [List.length_cons]; omega)
      have p00 : ((0 : Int) < ((h :: l2).length : Int)) = True := eq_true (by simp only [List.length_cons]; omega)
      cases l2 with
      | nil =>
        have HRS := Lib.hid (rdRes_none (HP.out.symm.trans rd_lone))
        go_wp2_with fail
        refine (take_none A' c' _ 2 _ (by simp)).mono ?_
        rintro e w' ⟨rfl, rfl⟩
        go_wp2_with fail
        refine read_panic rfl rfl HL.out HF.out HNE.out ⟨_, by rw [HRS.out], by rw [HRS.out]; exact Kd.S_nil _ _ _ _ _, ?_⟩
        exact below_set (below_set (below_alloc HB.out _) HBL.out) (by have := HBL.out; have := HBF.out; omega)
      | cons n r =>
        obtain ⟨m, rfl⟩ : ∃ m : Nat, n = m := Int.eq_ofNat_of_zero_le (HBY'.out n (by simp)).1
        have hm255 : (m : Int) ≤ 255 := (HBY'.out m (by simp)).2
        have hh := HBY'.out h (by simp)
        obtain ⟨ad, rfl, x0⟩ := Kd.at_int HC'.out 0 (by omega) (by simp only [List.length_cons]; omega)
        obtain ⟨ad2, e2, x1⟩ := Kd.at_int HC'.out 1 (by omega) (by simp only [List.length_cons]; omega)
        cases e2
        have x0w : w.cell? ad = some (.int .u8 h) := x0
        replace x0 := (HB.out.cell (World.block_lt_of_cell? w _ x0)).trans x0
        replace x1 := (HB.out.cell (World.block_lt_of_cell? w _ x1)).trans x1
        have HC2 := Kd.C_drop (c := c') (m := 2) HC'.out (by simp) hc'
        rw [show (Kd.int .u8).sz = 1 from rfl, Nat.mul_one] at HC2
        change (Kd.int .u8).C w _ r.length r at HC2
        obtain ⟨nn, hnn⟩ : ∃ nn, nn = (h :: (m : Int) :: r).length := ⟨_, rfl⟩
        have hnr : nn = r.length + 2 := hnn
        obtain ⟨B2, hB2⟩ : ∃ B, B = (if c' = 2 then some ad else (some ad).map (·.add 2)) := ⟨_, rfl⟩
        obtain ⟨c2, hc2⟩ : ∃ c2, c2 = c' - 2 := ⟨_, rfl⟩
        rw [← hB2] at HC2
        rw [← hnn] at hc' hl1 hl2 p0 p00 ⊢
        have T1 := take_some (some ad) c' nn 2 wr (by omega) hc' (by omega)
        rw [← hB2, ← hc2, show nn - 2 = r.length from by omega] at T1
        have HT1 := Lib.hid T1
        have x0'' : wr.cell? ad = some (.int .u8 h) := x0
        have x1' : wr.cell? ⟨ad.block, ad.off + 1, none⟩ = some (.int .u8 (m : Int)) := x1
        have HX := Lib.hid x0w
        have e5 : IntKind.i64.wrap (m : Int) = (m : Int) := IntWalk.i64_in _ (by omega)
        have e6 : IntKind.i64.wrap h = h := IntWalk.i64_in _ (by omega)
        have HCR := Lib.hid HC2
        have hrc : r.length ≤ c2 := by omega
        have HNR := Lib.hid hnr
        have hrl : r.length < 1099511627776 := by omega
        have p1 : (0 < nn) = True := eq_true (by omega)
        clear x0w x0 x1 HC' T1 HC2 hB2 hc2 hnn hnr
        by_cases hmr : m ≤ r.length
        · have T2 := take_some B2 c2 r.length m wr.drew (by omega) hrc (by omega)
          obtain ⟨B3, hB3⟩ : ∃ B, B = (if c2 = m then B2 else B2.map (·.add m)) := ⟨_, rfl⟩
          obtain ⟨c3, hc3⟩ : ∃ c3, c3 = c2 - m := ⟨_, rfl⟩
          obtain ⟨r3, hr3⟩ : ∃ r3, r3 = r.drop m := ⟨_, rfl⟩
          obtain ⟨d3, hd3⟩ : ∃ d3, d3 = r.take m := ⟨_, rfl⟩
          have hr3l : r3.length = r.length - m := by rw [hr3, List.length_drop]
          have hd3l : d3.length = m := by rw [hd3, List.length_take]; omega
          rw [← hB3, ← hc3, ← hr3l] at T2
          have C3 := Kd.C_drop (c := c2) (m := m) HCR.out hmr hrc
          rw [show (Kd.int .u8).sz = 1 from rfl, Nat.mul_one, ← hB3, ← hr3] at C3
          have C4 := Kd.C_take (m := m) HCR.out hmr
          rw [← hd3] at C4
          have HC3 := Lib.hid C3
          have HC4 := Lib.hid C4
          have HR3 := Lib.hid hr3
          have HD3 := Lib.hid hd3
          have HR3L := Lib.hid hr3l
          have HD3L := Lib.hid hd3l
          have HT2 := Lib.hid T2
          have hc3' : r3.length ≤ c3 := by omega
          clear T2 hB3 hc3 hr3 hd3 hr3l hd3l C3 C4
          by_cases hz : h = 0
          · subst hz
            have q1 : ((0 : Int) == 0) = true := rfl
            have HRS := Lib.hid (rdRes_none (HP.out.symm.trans (rd_stop (by simp))))
            go_wp2_with fail
            refine HT1.out.mono ?_
            rintro e w' ⟨rfl, rfl⟩
            go_wp2_with fail
            refine HT2.out.mono ?_
            rintro e w' ⟨rfl, rfl⟩
            go_wp2_with fail
            refine read_ret (A := none) (n := 0) (c := 0) (b := false) rfl rfl (blk_drew (blk_drew (boxed_far (HL.out.set _) (Ne.symm HNE.out) _))) (blk_drew (blk_drew ((boxed_far HF.out HNE.out _).set _))) ⟨_, by rw [HRS.out], by rw [HRS.out]; exact Kd.S_nil _ _ _ _ _, ?_⟩
            exact below_alloc (below_drew1 (below_drew1 (below_set (below_set HB.out HBL.out) (by have := HBL.out; have := HBF.out; omega)))) _
          · have q1 : (h == 0) = false := beq_eq_false_iff_ne.2 hz
            have HP2 : Hid (rdL r3 (acc ++ [⟨h, d3⟩]) = rdL l []) := by
              show _ = _
              rw [← HP.out, rd_step (by simpa using hmr) hz, HR3.out, HD3.out, Int.toNat_natCast]
            have HCL : Hid (∀ W, Below w.heap.size w W → Calls Try.prog 31 #[.slice B2 m c2] W fun e w' => ∃ v0_ : Value, e = .returned v0_ ∧ Kd.R (Kd.int .u8) 5 w' W.heap.size (fun _ => True) v0_ d3 ∧ Below W.heap.size W w') := by
              intro W hb
              have := clone_calls B2 c2 d3 W (Kd.C_below HC4.out hb) (by have := HD3L.out; omega) (by have := HD3L.out; omega)
              rwa [HD3L.out] at this
            clear hz
            go_wp2_with fail
            refine HT1.out.mono ?_
            rintro e w' ⟨rfl, rfl⟩
            go_wp2_with fail
            refine HT2.out.mono ?_
            rintro e w' ⟨rfl, rfl⟩
            go_wp2_with fail
            obtain ⟨w3, hw3⟩ : ∃ W, wr.drew.drew = W := ⟨_, rfl⟩
            have hb3 : Below wr.heap.size wr w3 := by rw [← hw3]; exact below_drew (below_drew (Below.refl _ _))
            have HV3 := Lib.hid (Kd.S_below HV.out hb3)
            have HL3 : Hid (Boxed w3 bl 26 (.slice Av acc.length cv)) := (hb3.block bl HL.out.lt).trans HL.out
            have HF3 : Hid (Boxed w3 bf 4 (.bool false)) := (hb3.block bf HF.out.lt).trans HF.out
            have HB3 := Lib.hid (HB.out.trans (hb3.mono HB.out.size))
            rw [hw3]
            clear hw3 hb3 y1 z1 y2 z2 y3 x0'' x1' HV HL HF HB HT1 HT2
            have y1 := HL3.out.cell
            have y2 := pw_cell_below HB3.out HX.out
            refine start_ (n := 11) (S := fun w' => w'.cell? ⟨bl, 0, none⟩ = some (.slice Av acc.length cv) ∧ w'.cell? ad = some (.int .u8 h)) (ds := [10]) #[false, false, false, false, false, false, false, false, false, false, false] (by kernel_rfl) rfl rfl ⟨y1, y2⟩ (fun hHeld => ?_)
            obtain ⟨W2, hW2⟩ : ∃ W2, w3.drew = W2 := ⟨_, rfl⟩
            have hbw : Below w3.heap.size w3 W2 := by rw [← hW2]; exact below_drew (Below.refl _ _)
            rw [hW2] at hHeld ⊢
            clear hW2 y1 y2
            have HVW := Lib.hid (Kd.S_below HV3.out hbw)
            have HLW : Hid (Boxed W2 bl 26 (.slice Av acc.length cv)) := (hbw.block bl HL3.out.lt).trans HL3.out
            have HFW : Hid (Boxed W2 bf 4 (.bool false)) := (hbw.block bf HF3.out.lt).trans HF3.out
            have HBW := Lib.hid (HB3.out.trans (hbw.mono HB3.out.size))
            clear hbw HV3 HL3 HF3 HB3
            refine pure_ (i := 1) (N := some 29) (v := ?_) (a' := ?_) #[false, true, false, false, false, false, false, false, false, false, false] rfl rfl (by kernel_rfl) (put_quiet 29 (by decide) (by decide)) (Or.inl ⟨by rfl, ?_⟩) ?_ ?_
            rotate_left
            · intro w'
              go_simp
              with_reducible rfl
            rotate_left
            · simp only [Act.put, List.setIfInBounds_toArray, List.set_cons_zero, List.set_cons_succ, i64_w, i32_w]
              rfl
            refine pure_ (i := 2) (N := some 30) (v := ?_) (a' := ?_) #[false, true, true, false, false, false, false, false, false, false, false] rfl rfl (by kernel_rfl) (put_quiet 30 (by decide) (by decide)) (Or.inl ⟨by rfl, ?_⟩) ?_ ?_
            rotate_left
            · intro w'
              go_simp
              with_reducible rfl
            rotate_left
            · simp only [Act.put, List.setIfInBounds_toArray, List.set_cons_zero, List.set_cons_succ, i64_w, i32_w]
              rfl
            refine pure_ (i := 5) (N := some 33) (v := ?_) (a' := ?_) #[false, true, true, false, false, true, false, false, false, false, false] rfl rfl (by kernel_rfl) (put_quiet 33 (by decide) (by decide)) (Or.inl ⟨by rfl, ?_⟩) ?_ ?_
            rotate_left
            · intro w'
              go_simp
              with_reducible rfl
            rotate_left
            · simp only [Act.put, List.setIfInBounds_toArray, List.set_cons_zero, List.set_cons_succ, i64_w, i32_w]
              rfl
            refine take_ (i := 0) (N := some 28) (v := .slice Av acc.length cv) (a' := ?_) #[true, true, true, false, false, true, false, false, false, false, false] rfl rfl (by kernel_rfl) (put_quiet 28 (by decide) (by decide)) (Or.inl ⟨by rfl, ?_⟩) hHeld ?_ ?_
            · rintro w' ⟨s0, s1⟩
              go_simp
              try (with_reducible rfl)
            rotate_left
            · simp only [Act.put, List.setIfInBounds_toArray, List.set_cons_zero, List.set_cons_succ, i64_w, i32_w]
              rfl
            refine take_ (i := 3) (N := some 31) (v := .int .u8 h) (a' := ?_) #[true, true, true, true, false, true, false, false, false, false, false] rfl rfl (by kernel_rfl) (put_quiet 31 (by decide) (by decide)) (Or.inl ⟨by rfl, ?_⟩) hHeld ?_ ?_
            · rintro w' ⟨s0, s1⟩
              go_simp
              try (with_reducible rfl)
            rotate_left
            · simp only [Act.put, List.setIfInBounds_toArray, List.set_cons_zero, List.set_cons_succ, i64_w, i32_w]
              rfl
            refine pure_ (i := 4) (N := some 32) (v := .int .i64 h) (a' := ?_) #[true, true, true, true, true, true, false, false, false, false, false] rfl rfl (by kernel_rfl) (put_quiet 32 (by decide) (by decide)) (Or.inl ⟨by rfl, ?_⟩) ?_ ?_
            · intro w'
              go_simp
              try (with_reducible rfl)
            rotate_left
            · simp only [Act.put, List.setIfInBounds_toArray, List.set_cons_zero, List.set_cons_succ, i64_w, i32_w]
              rfl
            refine one_ (i := 6) (N := some 34) #[true, true, true, true, true, true, true, false, false, false, false] rfl rfl (by kernel_rfl) (by decide) (fun K hK => ?_)
            refine goes_ Try.func31 (by kernel_rfl) rfl #[.slice B2 m c2] (by rfl) rfl rfl (by (try simp only [List.map_toArray, List.map_cons, List.map_nil]); rfl) ?_
            refine (HCL.out _ HBW.out).mono ?_
            rintro e w6 ⟨v6, rfl, hv6, hb6⟩
            obtain ⟨A6, c6, rfl⟩ := Kd.R_slice hv6
            have HV6 := Lib.hid (Kd.S_old HVW.out hb6)
            have HR6 := Lib.hid hv6
            have HW6 := Lib.hid hb6
            clear hv6 hb6 hHeld
            refine ⟨_, rfl, ?_⟩
            refine hK.out _ _ ⟨pw_cell_below HW6.out HLW.out.cell, pw_cell_below (HBW.out.trans (HW6.out.mono HBW.out.size)) HX.out⟩ (fun hHeld => ?_)
            clear hK K
            try (refine norm_ (a' := ?_) ?_ ?_; rotate_left; focus (simp only [Act.put, List.setIfInBounds_toArray, List.set_cons_zero, List.set_cons_succ, i64_w, i32_w]; rfl))
            refine pure_ (i := 7) (N := some 35) (v := ?_) (a' := ?_) #[true, true, true, true, true, true, true, true, false, false, false] rfl rfl (by kernel_rfl) (put_quiet 35 (by decide) (by decide)) (Or.inl ⟨by rfl, ?_⟩) ?_ ?_
            rotate_left
            · intro w'
              go_simp
              with_reducible rfl
            rotate_left
            · simp only [Act.put, List.setIfInBounds_toArray, List.set_cons_zero, List.set_cons_succ, i64_w, i32_w]
              rfl
            refine one_ (i := 8) (N := some 36) #[true, true, true, true, true, true, true, true, true, false, false] rfl rfl (by kernel_rfl) (by decide) (fun K hK => ?_)
            go_simp
            clear hHeld
            refine hK.out _ _ ⟨pw_cell_below (HW6.out.trans ((below_alloc (Below.refl _ _) _).mono HW6.out.size)) HLW.out.cell, pw_cell_below (below_alloc (HBW.out.trans (HW6.out.mono HBW.out.size)) _) HX.out⟩ (fun hHeld => ?_)
            clear hK K
            try (refine norm_ (a' := ?_) ?_ ?_; rotate_left; focus (simp only [Act.put, List.setIfInBounds_toArray, List.set_cons_zero, List.set_cons_succ, i64_w, i32_w]; rfl))
            refine one_ (i := 9) (N := some 37) #[true, true, true, true, true, true, true, true, true, true, false] rfl rfl (by kernel_rfl) (by decide) (fun K hK => ?_)
            have hsz : bf + 1 ≤ W2.heap.size := HFW.out.lt
            refine Kd.S_append_step k48 (w0 := W2) (bf + 1) (by rfl) (.tmp 28) (.tmp 36) 26 48 (.agg #[.int .i64 0, .slice none 0 0]) 32 rfl Try.underlying26 rinfo rfl (by decide) (by omega) (.slice Av acc.length cv) acc (⟨h, d3⟩ : OptR) [.int .i64 h, .slice A6 d3.length c6] (fun _ => True) (fun k_ => some k_ = (.slice A6 d3.length c6 : Value).ownBlock) rfl rfl ?aP ?aQ (fun _ _ => trivial) ?aO (HW6.out.mono hsz) (Nat.le_trans hsz HW6.out.size) ?aL ?_
            case aP => exact k48_mkM _ _ _ (⟨h, d3⟩ : OptR) (Kd.R_tight rfl (Kd.R_lower HR6.out hsz))
            case aQ => exact fun k hk => ⟨trivial, fun e => by have h1 := Kd.R_base HR6.out k hk.symm; have h2 := Kd.S_lt HVW.out k e.symm; omega⟩
            case aO => exact Kd.S_mono HV6.out (fun k hk => ⟨trivial, fun e => by have h1 := Kd.R_base HR6.out k e.symm; have h2 := hk.2; omega⟩)
            case aL => omega
            intro v9 w9 ho9 hb9 _ _
            obtain ⟨A9, c9, rfl⟩ := Kd.S_slice ho9
            have HL9 : Hid (Boxed w9 bl 26 (.slice Av acc.length cv)) := (hb9.block bl (by have := HBF.out; omega)).trans HLW.out
            have HF9 : Hid (Boxed w9 bf 4 (.bool false)) := (hb9.block bf (by omega)).trans HFW.out
            have HB9 := Lib.hid (HBW.out.trans (hb9.mono (by have := HBF.out; have := HBL.out; omega)))
            have HV9 := Lib.hid ho9
            clear ho9 hb9 hsz hHeld HV6 HR6 HW6 HVW HLW HFW HBW
            refine hK.out _ _ ⟨HL9.out.cell, pw_cell_below HB9.out HX.out⟩ (fun hHeld => ?_)
            clear hK K
            refine norm_ (a' := ?_) ?_ ?_
            rotate_left
            · show Act.put _ (some 37) _ = _
              simp only [Act.put, List.setIfInBounds_toArray, List.set_cons_zero, List.set_cons_succ, i64_w, i32_w]
              rfl
            have y9 := HL9.out.cell
            have z9 := HL9.out.frozen
            refine last_ (i := 10) (N := none) #[true, true, true, true, true, true, true, true, true, true, true] rfl rfl (by kernel_rfl) (by decide) (fun K hK => ?_)
            go_simp
            refine hK.out _ _ ?_
            clear hK K y9 z9 hHeld
            try (refine norm_ (a' := ?_) ?_ ?_; rotate_left; focus (simp only [Act.put, List.setIfInBounds_toArray, List.set_cons_zero, List.set_cons_succ, i64_w, i32_w]; rfl))
            refine done_ (by kernel_rfl) ?_
            have HV9' := HV9.out
            rw [show (acc ++ [(⟨h, d3⟩ : OptR)]).length = acc.length + 1 from by simp] at HV9'
            obtain ⟨v9, hv9⟩ : ∃ v9, (Value.slice A9 (acc.length + 1) c9) = v9 := ⟨_, rfl⟩
            rw [hv9] at HV9' ⊢
            clear hv9 HV9
            have HV9 := Lib.hid HV9'
            clear HV9'
            have HL10 : Hid (Boxed (w9.setCell ⟨bl, 0, none⟩ v9) bl 26 v9) := HL9.out.set v9
            have HF10 : Hid (Boxed (w9.setCell ⟨bl, 0, none⟩ v9) bf 4 (.bool false)) := boxed_far HF9.out HNE.out v9
            have HB10 := Lib.hid (below_set (v := v9) (j := 0) HB9.out HBL.out)
            have HV10 : Hid (Kd.S k48 48 (w9.setCell ⟨bl, 0, none⟩ v9) (bf + 1) (fun _ => True) v9 (acc ++ [⟨h, d3⟩])) :=
              Kd.S_mono (Kd.S_far (Kd.S_mono (ok' := fun k => bf < k) (Kd.S_bound HV9.out) (fun k hk => by have := hk.2.1; omega)) (p := ⟨bl, 0, none⟩) (fun k hk => by have := HBF.out; show k ≠ bl; omega) v9) (fun _ _ => trivial)
            have HBY3 : Hid (∀ x ∈ r3, 0 ≤ x ∧ x ≤ 255) := fun x hx => HBY'.out x (by rw [HR3.out] at hx; exact List.mem_cons_of_mem _ (List.mem_cons_of_mem _ (List.mem_of_mem_drop hx)))
            go_roundw
            case rel =>
              have h1 := HR3L.out
              have h2 := HNR.out
              first
                | exact ⟨r3, acc ++ [⟨h, d3⟩], v9, B3, c3, rfl, hc3', by omega, by simp only [List.length_append, List.length_singleton]; omega, HBY3, HP2, HC3, HV10, HL10, HF10, HB10⟩
                | ((repeat apply Exists.intro); exact ⟨⟨r3, acc ++ [⟨h, d3⟩], v9, B3, c3, rfl, hc3', by omega, by simp only [List.length_append, List.length_singleton]; omega, HBY3, HP2, HC3, HV10, HL10, HF10, HB10⟩, rfl⟩)
            case measure =>
              have h1 := HR3L.out
              have h2 := HNR.out
              simp [lenOfV]; omega
        · have HRS := Lib.hid (rdRes_none (HP.out.symm.trans (rd_stop (by simp; omega))))
          go_wp2_with fail
          refine HT1.out.mono ?_
          rintro e w' ⟨rfl, rfl⟩
          go_wp2_with fail
          refine (take_none B2 c2 r.length m _ (by omega)).mono ?_
          rintro e w' ⟨rfl, rfl⟩
          go_wp2_with fail
          refine read_panic rfl rfl (W := wr.drew) (blk_drew HL.out) (blk_drew HF.out) HNE.out ⟨_, by rw [HRS.out], by rw [HRS.out]; exact Kd.S_nil _ _ _ _ _, ?_⟩
          exact below_set (below_set (below_alloc (below_drew1 HB.out) _) HBL.out) (by have := HBL.out; have := HBF.out; omega)

end Go.Proofs.Ytnkajghemggaaaa
end

section
namespace Go.Proofs.Ytnkajghemggaaaa
open Go.RowKit Go.Proofs.Ytnkajghemggaaaa.Pr Go.Proofs.YtnkajghemggaaaaW.PrintWords Go.Proofs.YtnkajghemggaaaaW.PrintLast Go.Proofs.YtnkajghemggaaaaW.PrintMore
attribute [local go_sem] max2_int min2_int max_two min_two max_three min_three max_four min_four
set_option linter.unusedVariables false
set_option linter.unusedSimpArgs false

/-- What Decode hands back. -/
def rlDec (l : List Int) : List OptR × Int := if (rdRes l).2 = true ∧ l.length ≤ 255 then ((rdRes l).1, 0) else ([], 2)
def relay_Decode.f (l0 : List Int) : Option (List OptR × Int) := if (∀ x ∈ l0, 0 ≤ x ∧ x ≤ 255) ∧ l0.length < 1099511627776 then some (rlDec l0) else none
set_option maxHeartbeats 2000000 in
set_option maxRecDepth 100000 in
theorem relay_Decode.calls (A0 : Option Addr) (c0 : Nat) (l0 : List Int) (r1 : List OptR) (r2 : Int) (w : World) (hr0 : Kd.C (Kd.int .u8) w A0 l0.length l0) (hc0 : l0.length ≤ c0) (h : relay_Decode.f l0 = some (r1, r2)) :
    Calls Try.prog 15 #[.slice A0 l0.length c0] w fun e w' => ∃ v0_ : Value, e = .returned (.tuple #[v0_, .int .i64 r2]) ∧ Kd.S k48 48 w' w.heap.size (fun _ => True) v0_ r1 ∧ Below w.heap.size w w' := by
  unfold relay_Decode.f at h
  split at h
  case isFalse => cases h
  rename_i hcond
  have HR := read_calls A0 c0 l0 w hr0 hc0 hcond.1 hcond.2
  have HD : Hid (rlDec l0 = (r1, r2)) := Option.some.inj h
  clear h hr0 hcond
  obtain ⟨ls, b, hls⟩ : ∃ ls b, rdRes l0 = (ls, b) := ⟨_, _, rfl⟩
  unfold rlDec at HD
  rw [hls] at HR HD
  have HRR := Lib.hid HR
  clear hls HR
  cases b with
  | false =>
    obtain ⟨rfl, rfl⟩ := Prod.mk.inj (show (([] : List OptR), (2 : Int)) = (r1, r2) by have := HD.out; simpa using this)
    go_enter Try.func15, Try.ntmps15
    go_wp2_with fail
    refine HRR.out.mono ?_
    rintro e w' ⟨v, rfl, hs, hb⟩
    have HB := Lib.hid hb
    clear hs hb
    go_wp2_with fail
    go_ret2
    exact ⟨_, rfl, Kd.S_nil _ _ _ _ _, HB.out⟩
  | true =>
    by_cases hl : l0.length ≤ 255
    · obtain ⟨rfl, rfl⟩ := Prod.mk.inj (show (ls, (0 : Int)) = (r1, r2) by have := HD.out; simpa [hl] using this)
      have p1 : ((l0.length : Int) > 255) = False := eq_false (by omega)
      have p2 : ((255 : Int) < (l0.length : Int)) = False := eq_false (by omega)
      have p3 : (255 < l0.length) = False := eq_false (by omega)
      go_enter Try.func15, Try.ntmps15
      go_wp2_with fail
      refine HRR.out.mono ?_
      rintro e w' ⟨v, rfl, hs, hb⟩
      have HB := Lib.hid hb
      have HS := Lib.hid hs
      clear hs hb
      go_wp2_with fail
      go_ret2
      exact ⟨_, rfl, HS.out, HB.out⟩
    · obtain ⟨rfl, rfl⟩ := Prod.mk.inj (show (([] : List OptR), (2 : Int)) = (r1, r2) by have := HD.out; simpa [hl] using this)
      have p1 : ((l0.length : Int) > 255) = True := eq_true (by omega)
      have p2 : ((255 : Int) < (l0.length : Int)) = True := eq_true (by omega)
      have p3 : (255 < l0.length) = True := eq_true (by omega)
      go_enter Try.func15, Try.ntmps15
      go_wp2_with fail
      refine HRR.out.mono ?_
      rintro e w' ⟨v, rfl, hs, hb⟩
      have HB := Lib.hid hb
      clear hs hb
      go_wp2_with fail
      go_ret2
      exact ⟨_, rfl, Kd.S_nil _ _ _ _ _, HB.out⟩
end Go.Proofs.Ytnkajghemggaaaa
end

section
-- written by a program of this session (wip/tools/gen.py) over the kit's print
namespace Go.Proofs.Ytnkajghemggaaaa.Pr
open Go.RowKit Go.Proofs.YtnkajghemggaaaaW.PrintWords Go.Proofs.YtnkajghemggaaaaW.PrintLast Go.Proofs.YtnkajghemggaaaaW.PrintMore
attribute [local go_sem] max2_int min2_int max_two min_two max_three min_three max_four min_four   -- for this text's walks alone
set_option linter.unusedVariables false
set_option linter.unusedSimpArgs false

/-! ### lessorref02_Few: function 12 -/
def lessorref02_Few.l0 : Nat → List (S48) → Int → Option (Bool)
 | 0, _, _ => none
 | k + 1, x0, x3 => if x3 < (x0.length : Int) then (if 0 ≤ x3 then (if (((rd_T48 x0 x3).f1).length : Int) > 1000 then (some false) else (lessorref02_Few.l0 k x0 (wrap64 (x3 + 1)))) else (none)) else (some true)
def lessorref02_Few.f (k : Nat) (l0 : List (S48)) : Option (Bool) := if (l0.length : Int) > 100 then (some false) else (lessorref02_Few.l0 k l0 0)
theorem lessorref02_Few.mono_l : ∀ k, (∀ y0 y1, LeO (lessorref02_Few.l0 k y0 y1) (lessorref02_Few.l0 (k + 1) y0 y1))
 | 0 => fun _ _ r h => by simp [lessorref02_Few.l0] at h
 | k + 1 => by
  have ih0 := lessorref02_Few.mono_l k
  ·intro y0 y1
   unfold lessorref02_Few.l0
   repeat' first
   | (with_reducible exact ih0 _ _)
   | (with_reducible exact LeO.refl _)
   | (with_reducible exact LeO.none _)
   | (with_reducible refine LeO.ite ?_ ?_)
   | (with_reducible refine LeO.bind ?_ (fun _ => ?_))
   | exact ih0 _ _
   | exact LeO.none _
   | refine LeO.ite ?_ ?_
   | refine LeO.bind ?_ (fun _ => ?_)
theorem lessorref02_Few.mono : ∀ a0 k, LeO (lessorref02_Few.f k a0) (lessorref02_Few.f (k + 1) a0) := by
 intro a0 k
 have ih0 := lessorref02_Few.mono_l k
 unfold lessorref02_Few.f
 repeat' first
   | (with_reducible exact ih0 _ _)
   | (with_reducible exact LeO.refl _)
   | (with_reducible exact LeO.none _)
   | (with_reducible refine LeO.ite ?_ ?_)
   | (with_reducible refine LeO.bind ?_ (fun _ => ?_))
   | exact ih0 _ _
   | exact LeO.none _
   | refine LeO.ite ?_ ?_
   | refine LeO.bind ?_ (fun _ => ?_)
set_option maxHeartbeats 8000000 in
set_option maxRecDepth 100000 in
theorem lessorref02_Few.calls (k : Nat) (A0 : Option Addr) (c0 : Nat) (l0 : List (S48)) (r : Bool) (w : World) (hr0 : Kd.C k48 w A0 l0.length l0) (hc0 : l0.length ≤ c0) (h : lessorref02_Few.f k l0 = some r) :
  Calls Try.prog 12 #[.slice A0 l0.length c0] w fun e w' => e = .returned (.bool r) ∧ Drawn0 w w' := by
 have HR0 := Aside0.mk hr0
 have HC0 := Aside0.mk hc0
 clear hr0 hc0
 have H : (if (l0.length : Int) > 100 then (some false) else (lessorref02_Few.l0 k l0 0)) = some r := h
 clear h
 by_cases c2 : (l0.length : Int) > 100
 ·rw [if_pos c2] at H
  have c2b0 : decide (100 < (l0.length : Int)) = true := decide_eq_true c2
  have c2b1 : decide (100 < l0.length) = true := decide_eq_true (by omega)
  clear c2
  obtain rfl := Option.some.inj H
  go_enter Try.func12, Try.ntmps12
  go_wp2
  go_ret
  exact ⟨by first | rfl | (simp; done) | (simp [*]; done), by repeat (first | exact Drawn0.refl _ | apply Drawn0.step)⟩
 ·rw [if_neg c2] at H
  have c2b0 : decide (100 < (l0.length : Int)) = false := decide_eq_false c2
  have c2b1 : decide (100 < l0.length) = false := decide_eq_false (by omega)
  clear c2
  have H' := Aside0.mk H
  clear H
  go_enter Try.func12, Try.ntmps12
  go_wp2
  go_loopg [3] k (fun kq v3 w' => ∃ (x3_1 : Int), v3 = .int .i64 x3_1 ∧ Aside0 (lessorref02_Few.l0 kq l0 x3_1 = some r) ∧ Aside0 (kq ≤ k) ∧ Drawn0 w w')
  case atStart => exact ⟨(0), (by first | rfl | (simp; done) | (simp [*]; done)), H', ⟨Nat.le_refl _⟩, by repeat (first | exact Drawn0.refl _ | apply Drawn0.step)⟩
  case round =>
   clear H'
   try clear c1
   try clear c2
   try clear c2b0
   try clear c2b1
   try clear p2
   obtain ⟨x3_1, rfl, HA, HK1, ⟨m1, rfl⟩⟩ := hrel
   cases gk with
   | zero => exact absurd HA.out (by simp [lessorref02_Few.l0])
   | succ k1 =>
    have H := HA.out
    clear HA
    simp only [lessorref02_Few.l0] at H
    by_cases c3 : x3_1 < (l0.length : Int)
    ·rw [if_pos c3] at H
     have c3b0 : decide (x3_1 < (l0.length : Int)) = true := decide_eq_true c3
     clear c3
     by_cases c4 : 0 ≤ x3_1
     ·rw [if_pos c4] at H
      have c4b0 : decide (0 ≤ x3_1) = true := decide_eq_true c4
      clear c4
      by_cases c5 : (((rd_T48 l0 x3_1).f1).length : Int) > 1000
      ·rw [if_pos c5] at H
       have c5b0 : decide (1000 < (((rd_T48 l0 x3_1).f1).length : Int)) = true := decide_eq_true c5
       have c5b1 : decide (1000 < ((rd_T48 l0 x3_1).f1).length) = true := decide_eq_true (by omega)
       clear c5
       obtain rfl := Option.some.inj H
       have p127 : 0 ≤ (x3_1 : Int) := of_decide_eq_true (by first | (with_reducible assumption) | assumption)
       have q127 : x3_1 < (l0.length : Int) := of_decide_eq_true (by first | (with_reducible assumption) | assumption)
       obtain ⟨ad127, A127_1, c127_1, e127, hx127_0, hx127_1, hl127_1, hi127_1⟩ := at_T48 HR0.out x3_1 p127 q127
       cases e127
       have HR127_1 := Aside0.mk hi127_1
       have HC127_1 := Aside0.mk hl127_1
       clear hi127_1 hl127_1
       replace p127 := eq_true p127
       replace q127 := eq_true q127
       go_wp2
       go_ret
       exact ⟨by first | rfl | (simp; done) | (simp [*]; done), by repeat (first | exact Drawn0.refl _ | apply Drawn0.step)⟩
      ·rw [if_neg c5] at H
       have c5b0 : decide (1000 < (((rd_T48 l0 x3_1).f1).length : Int)) = false := decide_eq_false c5
       have c5b1 : decide (1000 < ((rd_T48 l0 x3_1).f1).length) = false := decide_eq_false (by omega)
       clear c5
       have H' := Aside0.mk H
       clear H
       have p127 : 0 ≤ (x3_1 : Int) := of_decide_eq_true (by first | (with_reducible assumption) | assumption)
       have q127 : x3_1 < (l0.length : Int) := of_decide_eq_true (by first | (with_reducible assumption) | assumption)
       obtain ⟨ad127, A127_1, c127_1, e127, hx127_0, hx127_1, hl127_1, hi127_1⟩ := at_T48 HR0.out x3_1 p127 q127
       cases e127
       have HR127_1 := Aside0.mk hi127_1
       have HC127_1 := Aside0.mk hl127_1
       clear hi127_1 hl127_1
       replace p127 := eq_true p127
       replace q127 := eq_true q127
       go_wp2
       go_roundg k1
       case measure => have := HK1.out; omega
       case rel => exact ⟨(wrap64 (x3_1 + 1)), (by first | rfl | (simp; done) | (simp [*]; done)), H', ⟨by have := HK1.out; omega⟩, by repeat (first | exact Drawn0.refl _ | apply Drawn0.step)⟩
     ·rw [if_neg c4] at H
      exact absurd H (by simp)
    ·rw [if_neg c3] at H
     have c3b0 : decide (x3_1 < (l0.length : Int)) = false := decide_eq_false c3
     clear c3
     obtain rfl := Option.some.inj H
     go_wp2
     go_ret
     exact ⟨by first | rfl | (simp; done) | (simp [*]; done), by repeat (first | exact Drawn0.refl _ | apply Drawn0.step)⟩

end Go.Proofs.Ytnkajghemggaaaa.Pr
end

section
namespace Go.Proofs.Ytnkajghemggaaaa.PL
open Go.RowKit Go.Proofs.Ytnkajghemggaaaa Go.Proofs.Ytnkajghemggaaaa.Pr Go.Proofs.YtnkajghemggaaaaW.PrintWords Go.Proofs.YtnkajghemggaaaaW.PrintLast Go.Proofs.YtnkajghemggaaaaW.PrintMore
set_option linter.unusedVariables false
set_option linter.unusedSimpArgs false

abbrev Opt := S48
theorem wrapO {x : Int} (h0 : 0 ≤ x) (h1 : x < 9223372036854775808) : wrap64 x = x := by unfold wrap64; omega
theorem rd_at (l : List Opt) {i : Nat} (h : i < l.length) : rd_T48 l (i : Int) = l[i] := by
  unfold rd_T48
  rw [Int.toNat_natCast, List.getD_eq_getElem?_getD, List.getElem?_eq_getElem h]
  rfl

def okOpt (x : Opt) : Prop := 1 ≤ x.f0 ∧ x.f0 ≤ 255 ∧ x.f1.length ≤ 253
instance (x : Opt) : Decidable (okOpt x) := by unfold okOpt; infer_instance
def enc1 (x : Opt) : List Int := [x.f0 % 256, (x.f1.length : Int) % 256] ++ x.f1
def enc (l : List Opt) : List Int := (l.map enc1).flatten
def encR (l : List Opt) : List Int × Int := if l ≠ [] ∧ ∀ x ∈ l, okOpt x then (if 255 < (enc l).length then ([], 3) else (enc l, 0)) else ([], 1)
def fewR (l : List Opt) : Prop := l.length ≤ 1000 ∧ ∀ x ∈ l, x.f1.length ≤ 1000
def few (l : List Opt) : Prop := l.length ≤ 100 ∧ ∀ x ∈ l, x.f1.length ≤ 1000
theorem enc_append (l m : List Opt) : enc (l ++ m) = enc l ++ enc m := by simp [enc]
theorem enc_one (x : Opt) : enc [x] = enc1 x := by simp [enc]
theorem enc1_len (x : Opt) : (enc1 x).length = x.f1.length + 2 := by simp [enc1]
theorem enc_len_le : ∀ (l : List Opt), (∀ x ∈ l, x.f1.length ≤ 1000) → (enc l).length ≤ l.length * 1002 := by
  intro l
  induction l with
  | nil => intro _; simp [enc]
  | cons x l ih =>
    intro h
    have h1 := ih (fun y hy => h y (by simp [hy]))
    have h2 := h x (by simp)
    have e : enc (x :: l) = enc1 x ++ enc l := by simp [enc]
    rw [e, List.length_append, enc1_len, List.length_cons]
    omega
theorem enc_take_le (l : List Opt) (i : Nat) : (enc (l.take i)).length ≤ (enc l).length := by
  have : enc l = enc (l.take i) ++ enc (l.drop i) := by rw [← enc_append, List.take_append_drop]
  rw [this, List.length_append]; omega

/-! ### option.Encode -/
theorem odd_eq (x : Opt) : relay_Encode_1.f x.f0 x.f1 = some (!decide (okOpt x)) := by
  unfold relay_Encode_1.f
  by_cases ok : okOpt x
  · rw [decide_eq_true ok]
    unfold okOpt at ok
    rw [if_neg (by omega), if_neg (by omega), decide_eq_false (by omega)]
    rfl
  · rw [decide_eq_false ok]
    unfold okOpt at ok
    split
    · rfl
    · split
      · rfl
      · rw [decide_eq_true (by omega)]
        rfl
theorem index_spec (l : List Opt) (hl : l.length ≤ 1000000) : ∀ (d i k : Nat), l.length ≤ i + d → i ≤ l.length → d < k →
    ∃ r : Int, slices_IndexFunc.l0 k l (l.length : Int) (i : Int) = some r ∧ ((0 ≤ r ∧ ∃ x ∈ l.drop i, ¬ okOpt x) ∨ (r < 0 ∧ ∀ x ∈ l.drop i, okOpt x)) := by
  intro d
  induction d with
  | zero =>
    intro i k h1 h2 hk
    obtain ⟨k, rfl⟩ : ∃ m, k = m + 1 := ⟨k - 1, by omega⟩
    refine ⟨-1, ?_, .inr ⟨by omega, ?_⟩⟩
    · simp only [slices_IndexFunc.l0]; rw [if_neg (by omega)]
    · rw [List.drop_of_length_le (by omega)]; simp
  | succ d ih =>
    intro i k h1 h2 hk
    obtain ⟨k, rfl⟩ : ∃ m, k = m + 1 := ⟨k - 1, by omega⟩
    by_cases h : i < l.length
    · simp only [slices_IndexFunc.l0]
      rw [if_pos (by omega), if_pos (by omega), if_pos (by omega), rd_at l h, odd_eq]
      simp only [Option.bind_some]
      rw [List.drop_eq_getElem_cons h]
      by_cases ok : okOpt l[i]
      · rw [decide_eq_true ok, wrapO (by omega) (by omega)]
        obtain ⟨r, hr, hs⟩ := ih (i + 1) k (by omega) (by omega) (by omega)
        refine ⟨r, by simpa using (show slices_IndexFunc.l0 k l (l.length : Int) ((i : Int) + 1) = some r from hr), ?_⟩
        rcases hs with ⟨a, x, hx, b⟩ | ⟨a, b⟩
        · exact .inl ⟨a, x, List.mem_cons_of_mem _ hx, b⟩
        · exact .inr ⟨a, fun x hx => by
            rcases List.mem_cons.1 hx with rfl | hx
            · exact ok
            · exact b x hx⟩
      · rw [decide_eq_false ok]
        exact ⟨i, by simp, .inl ⟨by omega, l[i], List.mem_cons_self, ok⟩⟩
    · refine ⟨-1, ?_, .inr ⟨by omega, ?_⟩⟩
      · simp only [slices_IndexFunc.l0]; rw [if_neg (by omega)]
      · rw [List.drop_of_length_le (by omega)]; simp
theorem contains_eq (l : List Opt) (hl : l.length ≤ 1000000) (a : Int) (k : Nat) (hk : l.length < k) : slices_ContainsFunc.f k l a = some (!decide (∀ x ∈ l, okOpt x)) := by
  obtain ⟨r, hr, hs⟩ := index_spec l hl l.length 0 k (by omega) (by omega) hk
  unfold slices_ContainsFunc.f slices_IndexFunc.f
  rw [show ((0 : Nat) : Int) = 0 from rfl] at hr
  rw [hr]
  simp only [Option.bind_some]
  rw [List.drop_zero] at hs
  rcases hs with ⟨h1, x, hx, h2⟩ | ⟨h1, h2⟩
  · rw [decide_eq_true (by omega), decide_eq_false (fun h => h2 (h x hx))]; rfl
  · rw [decide_eq_false (by omega), decide_eq_true h2]; rfl
theorem encode_loop (l : List Opt) (hf : fewR l) : ∀ (d i k : Nat), l.length ≤ i + d → i ≤ l.length → d < k →
    relay_Encode.l0 k (enc (l.take i)) l (l.length : Int) (i : Int) = some (if 255 < (enc l).length then ([], 3) else (enc l, 0)) := by
  obtain ⟨hn, hx⟩ := hf
  have hel := enc_len_le l hx
  have hel' : (enc l).length ≤ 1002000 := by omega
  have fin : ∀ k, relay_Encode.l0 (k + 1) (enc l) l (l.length : Int) (l.length : Int) = some (if 255 < (enc l).length then ([], 3) else (enc l, 0)) := by
    intro k
    simp only [relay_Encode.l0]
    rw [if_neg (by omega)]
    by_cases c : 255 < (enc l).length
    · rw [if_pos (by omega), if_pos c]
    · rw [if_neg (by omega), if_neg c]
  intro d
  induction d with
  | zero =>
    intro i k h1 h2 hk
    obtain ⟨k, rfl⟩ : ∃ m, k = m + 1 := ⟨k - 1, by omega⟩
    obtain rfl : i = l.length := by omega
    rw [List.take_length]
    exact fin k
  | succ d ih =>
    intro i k h1 h2 hk
    obtain ⟨k, rfl⟩ : ∃ m, k = m + 1 := ⟨k - 1, by omega⟩
    by_cases h : i < l.length
    · simp only [relay_Encode.l0]
      have ht := enc_take_le l i
      have ht1 := enc_take_le l (i + 1)
      have hx1 := hx l[i] (List.getElem_mem h)
      rw [if_pos (by omega), if_pos (by omega), if_pos (by omega), rd_at l h]
      simp only [Option.bind_some]
      rw [if_pos (by simp; omega), if_pos (by simp; omega), wrapO (by omega) (by omega)]
      have e : enc (l.take i) ++ [l[i].f0 % 256, (l[i].f1.length : Int) % 256] ++ l[i].f1 = enc (l.take (i + 1)) := by
        rw [List.take_succ_eq_append_getElem h, enc_append, enc_one, enc1, List.append_assoc]
      rw [e]
      exact ih (i + 1) k (by omega) (by omega) (by omega)
    · obtain rfl : i = l.length := by omega
      rw [List.take_length]
      exact fin k
theorem encode_eq (l : List Opt) (hf : fewR l) (k : Nat) (hk : 1002 ≤ k) : relay_Encode.f k l = some (encR l) := by
  have hn := hf.1
  obtain ⟨k, rfl⟩ : ∃ m, k = m + 1 := ⟨k - 1, by omega⟩
  unfold relay_Encode.f encR
  by_cases e : l = []
  · subst e
    simp [relay_Encode.j0]
  · have hl : l.length ≠ 0 := fun h => e (List.eq_nil_of_length_eq_zero h)
    rw [if_neg (by omega), contains_eq l (by omega) _ (k + 1) (by omega)]
    simp only [Option.bind_some, relay_Encode.j0]
    by_cases ok : ∀ x ∈ l, okOpt x
    · rw [decide_eq_true ok, if_neg (by decide), if_pos ⟨e, ok⟩]
      exact encode_loop l hf l.length 0 k (by omega) (by omega) (by omega)
    · rw [decide_eq_false ok, if_pos (by decide), if_neg (fun h => ok h.2)]

/-! ### few -/
theorem few_loop (l : List Opt) (hl : l.length ≤ 100) : ∀ (d i k : Nat), l.length ≤ i + d → i ≤ l.length → d < k →
    lessorref02_Few.l0 k l (i : Int) = some (decide (∀ x ∈ l.drop i, x.f1.length ≤ 1000)) := by
  intro d
  induction d with
  | zero =>
    intro i k h1 h2 hk
    obtain ⟨k, rfl⟩ : ∃ m, k = m + 1 := ⟨k - 1, by omega⟩
    simp only [lessorref02_Few.l0]
    rw [if_neg (by omega), List.drop_of_length_le (by omega)]
    simp
  | succ d ih =>
    intro i k h1 h2 hk
    obtain ⟨k, rfl⟩ : ∃ m, k = m + 1 := ⟨k - 1, by omega⟩
    by_cases h : i < l.length
    · simp only [lessorref02_Few.l0]
      rw [if_pos (by omega), if_pos (by omega), rd_at l h, List.drop_eq_getElem_cons h]
      by_cases c : (l[i].f1.length : Int) > 1000
      · rw [if_pos c, decide_eq_false (fun hh => by have := hh l[i] List.mem_cons_self; omega)]
      · rw [if_neg c, wrapO (by omega) (by omega)]
        have := ih (i + 1) k (by omega) (by omega) (by omega)
        rw [show ((i : Int) + 1) = ((i + 1 : Nat) : Int) from rfl, this]
        congr 1
        rw [decide_eq_decide]
        constructor
        · intro hh x hx
          rcases List.mem_cons.1 hx with rfl | hx
          · omega
          · exact hh x hx
        · intro hh x hx; exact hh x (List.mem_cons_of_mem _ hx)
    · simp only [lessorref02_Few.l0]
      rw [if_neg (by omega), List.drop_of_length_le (by omega)]
      simp
theorem few_eq (l : List Opt) (k : Nat) (hk : 101 ≤ k) : ∃ b : Bool, lessorref02_Few.f k l = some b ∧ (b = true ↔ few l) := by
  unfold lessorref02_Few.f few
  by_cases c : (l.length : Int) > 100
  · rw [if_pos c]; exact ⟨false, rfl, by simp; omega⟩
  · rw [if_neg c]
    have := few_loop l (by omega) l.length 0 k (by omega) (by omega) (by omega)
    rw [show ((0 : Nat) : Int) = 0 from rfl, List.drop_zero] at this
    refine ⟨_, this, ?_⟩
    rw [decide_eq_true_iff]
    exact ⟨fun h => ⟨by omega, h⟩, fun h => h.2⟩

/-! ### the same lists -/
theorem same_loop (l : List Opt) (hl : l.length ≤ 1000000) : ∀ (d i k : Nat), l.length ≤ i + d → i ≤ l.length → d < k → lessorref02_Same.l0 k l l (i : Int) = some true := by
  intro d
  induction d with
  | zero =>
    intro i k h1 h2 hk
    obtain ⟨k, rfl⟩ : ∃ m, k = m + 1 := ⟨k - 1, by omega⟩
    simp only [lessorref02_Same.l0]
    rw [if_neg (by omega)]
  | succ d ih =>
    intro i k h1 h2 hk
    obtain ⟨k, rfl⟩ : ∃ m, k = m + 1 := ⟨k - 1, by omega⟩
    by_cases h : i < l.length
    · simp only [lessorref02_Same.l0]
      rw [if_pos (by omega), if_pos (by omega), if_pos (by omega)]
      simp only [if_true]
      rw [show wrap64 ((i : Int) + 1) = ((i + 1 : Nat) : Int) from by unfold wrap64; omega]
      exact ih (i + 1) k (by omega) (by omega) (by omega)
    · obtain rfl : i = l.length := by omega
      simp only [lessorref02_Same.l0]
      rw [if_neg (by omega)]
theorem same_refl (l : List Opt) (hl : l.length ≤ 1000000) (k : Nat) (hk : l.length < k) : lessorref02_Same.f k l l = some true := by
  unfold lessorref02_Same.f
  rw [if_pos rfl]
  exact same_loop l hl l.length 0 k (by omega) (by omega) hk
/-! ### Decode -/
theorem rd_of {l : List Int} {i : Nat} (h : i < l.length) : rd l (i : Int) = l[i] := by
  unfold rd
  rw [Int.toNat_natCast, List.getD_eq_getElem?_getD, List.getElem?_eq_getElem h]
  rfl
theorem rdL_ne {l : List Int} : ∀ (n : Nat) (acc r : List Opt), l.length ≤ n → rdL l acc = some r → acc.length ≤ r.length ∧ (l ≠ [] → acc.length < r.length) := by
  intro n
  induction n generalizing l with
  | zero =>
    intro acc r hl h
    obtain rfl : l = [] := List.eq_nil_of_length_eq_zero (by omega)
    unfold rdL at h
    obtain rfl := Option.some.inj h
    exact ⟨Nat.le_refl _, fun h => absurd rfl h⟩
  | succ n ih =>
    intro acc r hl h
    match l, hl, h with
    | [], _, h =>
      unfold rdL at h
      obtain rfl := Option.some.inj h
      exact ⟨Nat.le_refl _, fun h => absurd rfl h⟩
    | [x], _, h => rw [rd_lone] at h; cases h
    | x :: m :: s, hl, h =>
      by_cases c : m.toNat ≤ s.length ∧ x ≠ 0
      · rw [rd_step c.1 c.2] at h
        have := (ih _ _ (by simp only [List.length_drop, List.length_cons] at hl ⊢; omega) h).1
        simp only [List.length_append, List.length_singleton] at this
        exact ⟨by omega, fun _ => by omega⟩
      · rw [rd_stop c] at h; cases h
def decR (l : List Int) : List Opt × Int := match rdL l [] with | some r => if l ≠ [] ∧ l.length ≤ 255 then (r, 0) else ([], 2) | none => ([], 2)
theorem rlDec_eq (l : List Int) : rlDec l = decR l := by
  unfold rlDec decR
  cases h : rdL l [] with
  | none => rw [rdRes_none h]; simp
  | some r =>
    rw [rdRes_some h]
    have h1 := rdL_ne _ _ _ (Nat.le_refl _) h
    by_cases e : l = []
    · subst e
      unfold rdL at h
      obtain rfl := Option.some.inj h
      simp
    · have h2 := h1.2 e
      simp only [List.length_nil] at h2
      simp [h2, e]
theorem decode_eq (l : List Int) (hb : ∀ x ∈ l, 0 ≤ x ∧ x ≤ 255) (hl : l.length < 1099511627776) : relay_Decode.f l = some (decR l) := by
  unfold relay_Decode.f
  rw [if_pos ⟨hb, hl⟩, rlDec_eq]
/-! ### back -/
theorem rdL_enc (l : List Opt) (ok : ∀ x ∈ l, okOpt x) : ∀ (acc : List Opt), rdL (enc l) acc = some (acc ++ l) := by
  induction l with
  | nil => intro acc; show rdL [] acc = _; rw [rdL, List.append_nil]
  | cons x l ih =>
    intro acc
    obtain ⟨h1, h2, h3⟩ := ok x (by simp)
    have e : enc (x :: l) = x.f0 :: (x.f1.length : Int) :: (x.f1 ++ enc l) := by
      show enc1 x ++ enc l = _
      unfold enc1
      rw [Int.emod_eq_of_lt (by omega) (by omega), Int.emod_eq_of_lt (by omega) (by omega)]
      rfl
    rw [e, rd_step (by simp) (by omega), Int.toNat_natCast, List.drop_left, List.take_left, ih (fun y hy => ok y (by simp [hy]))]
    simp
theorem enc_rdL : ∀ (n : Nat) (l : List Int) (acc r : List Opt), l.length ≤ n → (∀ x ∈ l, 0 ≤ x ∧ x ≤ 255) → l.length ≤ 255 → rdL l acc = some r → ∃ m, r = acc ++ m ∧ enc m = l ∧ (∀ x ∈ m, okOpt x) := by
  intro n
  induction n with
  | zero =>
    intro l acc r hl hb h5 h
    obtain rfl : l = [] := List.eq_nil_of_length_eq_zero (by omega)
    rw [rdL] at h
    obtain rfl := Option.some.inj h
    exact ⟨[], by simp, rfl, by simp⟩
  | succ n ih =>
    intro l acc r hl hb h5 h
    match l, hl, hb, h5, h with
    | [], _, _, _, h =>
      rw [rdL] at h
      obtain rfl := Option.some.inj h
      exact ⟨[], by simp, rfl, by simp⟩
    | [x], _, _, _, h => rw [rd_lone] at h; cases h
    | x :: q :: s, hl, hb, h5, h =>
      by_cases c : q.toNat ≤ s.length ∧ x ≠ 0
      · rw [rd_step c.1 c.2] at h
        simp only [List.length_cons] at hl h5
        have hx := hb x (by simp)
        have hq := hb q (by simp)
        obtain ⟨m, e1, e2, e3⟩ := ih (s.drop q.toNat) _ _ (by rw [List.length_drop]; omega) (fun y hy => hb y (List.mem_cons_of_mem _ (List.mem_cons_of_mem _ (List.mem_of_mem_drop hy)))) (by rw [List.length_drop]; omega) h
        have hlen : (s.take q.toNat).length = q.toNat := by rw [List.length_take]; omega
        refine ⟨⟨x, s.take q.toNat⟩ :: m, by rw [e1]; simp, ?_, ?_⟩
        · show enc1 _ ++ enc m = _
          rw [e2]
          unfold enc1
          show [x % 256, ((s.take q.toNat).length : Int) % 256] ++ s.take q.toNat ++ s.drop q.toNat = _
          rw [hlen, List.append_assoc, List.take_append_drop, Int.emod_eq_of_lt (by omega) (by omega), Int.emod_eq_of_lt (by omega) (by omega), Int.toNat_of_nonneg hq.1]
          rfl
        · intro y hy
          rcases List.mem_cons.1 hy with rfl | hy
          · refine ⟨?_, hx.2, ?_⟩
            · show 1 ≤ x; have := c.2; omega
            · show (s.take q.toNat).length ≤ 253; omega
          · exact e3 y hy
      · rw [rd_stop c] at h; cases h
theorem enc_bytes (l : List Opt) (hb : ∀ x ∈ l, ∀ y ∈ x.f1, 0 ≤ y ∧ y ≤ 255) : ∀ y ∈ enc l, 0 ≤ y ∧ y ≤ 255 := by
  intro y hy
  unfold enc at hy
  obtain ⟨z, hz, hyz⟩ := List.mem_flatten.1 hy
  obtain ⟨x, hx, rfl⟩ := List.mem_map.1 hz
  unfold enc1 at hyz
  simp only [List.mem_append, List.mem_cons, List.not_mem_nil, or_false] at hyz
  rcases hyz with (rfl | rfl) | h
  · omega
  · omega
  · exact hb x hx y h

theorem enc_ne {l : List Opt} (h : l ≠ []) : enc l ≠ [] := by
  cases l with
  | nil => exact absurd rfl h
  | cons x l => intro e; have : (enc (x :: l)).length = 0 := by rw [e]; rfl
                have e2 : enc (x :: l) = enc1 x ++ enc l := by simp [enc]
                rw [e2, List.length_append, enc1_len] at this; omega
theorem enc_len_ge (l : List Opt) : l.length * 2 ≤ (enc l).length ∧ ∀ x ∈ l, x.f1.length ≤ (enc l).length := by
  induction l with
  | nil => exact ⟨by simp, by simp⟩
  | cons x l ih =>
    have e2 : enc (x :: l) = enc1 x ++ enc l := by simp [enc]
    rw [e2, List.length_append, enc1_len, List.length_cons]
    refine ⟨by omega, fun y hy => ?_⟩
    rcases List.mem_cons.1 hy with rfl | hy
    · omega
    · have := ih.2 y hy; omega
theorem decR_cases (b : List Int) (hb : ∀ x ∈ b, 0 ≤ x ∧ x ≤ 255) : (∃ m, decR b = (m, 0) ∧ enc m = b ∧ (∀ x ∈ m, okOpt x) ∧ m ≠ [] ∧ b.length ≤ 255) ∨ decR b = ([], 2) := by
  unfold decR
  cases h : rdL b [] with
  | none => exact .inr rfl
  | some r =>
    by_cases c : b ≠ [] ∧ b.length ≤ 255
    · obtain ⟨m, e1, e2, e3⟩ := enc_rdL _ b [] r (Nat.le_refl _) hb c.2 h
      rw [List.nil_append] at e1
      subst e1
      refine .inl ⟨r, by simp [c], e2, e3, ?_, c.2⟩
      rintro rfl
      exact c.1 e2.symm
    · exact .inr (by simp only; rw [if_neg c])
theorem dec_few {m : List Opt} {b : List Int} (e : enc m = b) (_ : ∀ x ∈ m, okOpt x) (h : b.length ≤ 255) : fewR m := by
  have h1 := enc_len_ge m
  rw [e] at h1
  exact ⟨by omega, fun x hx => by have := h1.2 x hx; omega⟩
theorem rdL_len {l : List Int} : ∀ (n : Nat) (acc r : List Opt), l.length ≤ n → rdL l acc = some r → r.length ≤ acc.length + l.length := by
  intro n
  induction n generalizing l with
  | zero =>
    intro acc r hl h
    obtain rfl : l = [] := List.eq_nil_of_length_eq_zero (by omega)
    unfold rdL at h
    obtain rfl := Option.some.inj h
    simp
  | succ n ih =>
    intro acc r hl h
    match l, hl, h with
    | [], _, h =>
      unfold rdL at h
      obtain rfl := Option.some.inj h
      simp
    | [x], _, h => rw [rd_lone] at h; cases h
    | x :: m :: s, hl, h =>
      by_cases c : m.toNat ≤ s.length ∧ x ≠ 0
      · rw [rd_step c.1 c.2] at h
        have := ih _ _ (by simp only [List.length_drop, List.length_cons] at hl ⊢; omega) h
        simp only [List.length_append, List.length_singleton, List.length_drop, List.length_cons, List.length_nil] at this ⊢
        omega
      · rw [rd_stop c] at h; cases h
theorem decR_len (b : List Int) : (decR b).1.length ≤ 255 := by
  unfold decR
  cases h : rdL b [] with
  | none => simp
  | some r =>
    have := rdL_len _ _ _ (Nat.le_refl _) h
    simp only
    split
    · simp at this ⊢; omega
    · simp
theorem wf_byte {x : Int} (h : (Lit.int .u8 x).wf = true) : 0 ≤ x ∧ x ≤ 255 := by
  simp only [Lit.wf, IntKind.min, IntKind.max, IntKind.signed, IntKind.bits, Bool.and_eq_true, decide_eq_true_eq] at h
  have h1 : (IntKind.u8.min : Int) = 0 := rfl
  have h2 : (IntKind.u8.max : Int) = 255 := rfl
  first | exact h | (simp_all; done) | (simp_all; omega)
theorem opt_bytes {x : Opt} (h : (Lit.int .i64 x.f0).wf = true ∧ (x.f1.length ≤ maxLen ∧ ∀ y ∈ x.f1, (Lit.int .u8 y).wf = true)) : ∀ y ∈ x.f1, 0 ≤ y ∧ y ≤ 255 := fun y hy => wf_byte (h.2.2 y hy)

end Go.Proofs.Ytnkajghemggaaaa.PL
end

section
namespace Go.Proofs.Ytnkajghemggaaaa
open Go.RowKit Go.Proofs.Ytnkajghemggaaaa.Pr Go.Proofs.YtnkajghemggaaaaW.PrintWords Go.Proofs.YtnkajghemggaaaaW.PrintLast Go.Proofs.YtnkajghemggaaaaW.PrintMore
attribute [local go_sem] max2_int min2_int max_two min_two max_three min_three max_four min_four
set_option linter.unusedVariables false
set_option linter.unusedSimpArgs false

theorem drawn_below {w w' : World} (h : Drawn0 w w') : Below w.heap.size w w' := by
  obtain ⟨n, rfl⟩ := h.out
  exact pw_below_drewN (Below.refl _ _) n
theorem str_s3 {w W : World} {A : Option Addr} {n c : Nat} {xs : List Int} (h : (Kd.int .u8).C w A n xs) (hb : Below w.heap.size w W) : (convert 25 9 (.slice A n c)).run Try.prog W = .ok (.string (strOfNums xs)) W := Kd.C_string Try.underlying25 Try.underlying5 Try.underlying9 (Kd.C_below h hb)
set_option maxHeartbeats 4000000 in
set_option maxRecDepth 100000 in
theorem same3C (a0 a1 a2 a3 a4 a5 a6 a7 : Int) (A8 : Option Addr) (c8 : Nat) (l8 : List Int) (A9 : Option Addr) (c9 : Nat) (l9 : List S48) (B8 : Option Addr) (d8 : Nat) (B9 : Option Addr) (d9 : Nat) (w : World) (h8 : (Kd.int .u8).C w A8 l8.length l8) (h9 : Kd.C k48 w A9 l9.length l9) (hc9 : l9.length ≤ c9) (g8 : (Kd.int .u8).C w B8 l8.length l8) (g9 : Kd.C k48 w B9 l9.length l9) (hd9 : l9.length ≤ d9) (hl : l9.length ≤ 1000000) :
    Calls Try.prog 20 #[.agg #[.int .i64 a0, .int .u32 a1, .int .i64 a2, .int .i64 a3, .int .u32 a4, .int .u32 a5, .int .u32 a6, .int .u32 a7, .slice A8 l8.length c8, .slice A9 l9.length c9], .agg #[.int .i64 a0, .int .u32 a1, .int .i64 a2, .int .i64 a3, .int .u32 a4, .int .u32 a5, .int .u32 a6, .int .u32 a7, .slice B8 l8.length d8, .slice B9 l9.length d9]] w fun e w' => e = .returned (.bool true) ∧ Below w.heap.size w w' := by
  have HS := Lib.hid (fun W (hb : Below w.heap.size w W) => lessorref02_Same.calls 1000001 A9 c9 l9 B9 d9 l9 true W (Kd.C_below h9 hb) hc9 (Kd.C_below g9 hb) hd9 (PL.same_refl l9 hl 1000001 (by omega)))
  have H8 := Lib.hid h8
  have G8 := Lib.hid g8
  clear h8 h9 hc9 g8 g9 hd9 hl
  go_enter Try.func20, Try.ntmps20
  go_upto_region 1 with fail
  obtain ⟨ba, hba⟩ : ∃ b, w.heap.size = b := ⟨_, rfl⟩
  obtain ⟨bb, hbb⟩ : ∃ b, ba + 1 = b := ⟨_, rfl⟩
  obtain ⟨w1, hw1⟩ : ∃ W, (w.alloc (.cells #[.int .i64 a0, .int .u32 a1, .int .i64 a2, .int .i64 a3, .int .u32 a4, .int .u32 a5, .int .u32 a6, .int .u32 a7, .slice A8 l8.length c8, .slice A9 l9.length c9] 28)).alloc (.cells #[.int .i64 a0, .int .u32 a1, .int .i64 a2, .int .i64 a3, .int .u32 a4, .int .u32 a5, .int .u32 a6, .int .u32 a7, .slice B8 l8.length d8, .slice B9 l9.length d9] 28) = W := ⟨_, rfl⟩
  have HA : Hid (w1.heap[ba]? = some (.cells #[.int .i64 a0, .int .u32 a1, .int .i64 a2, .int .i64 a3, .int .u32 a4, .int .u32 a5, .int .u32 a6, .int .u32 a7, .slice A8 l8.length c8, .slice A9 l9.length c9] 28 (0, 0))) := by show _ = _; rw [← hw1, ← hba]; exact (Below.heap_alloc _ _ _ (by simp)).trans (blk_new _ _)
  have HB : Hid (w1.heap[bb]? = some (.cells #[.int .i64 a0, .int .u32 a1, .int .i64 a2, .int .i64 a3, .int .u32 a4, .int .u32 a5, .int .u32 a6, .int .u32 a7, .slice B8 l8.length d8, .slice B9 l9.length d9] 28 (0, 0))) := by
    show _ = _
    rw [← hw1, ← hbb, ← hba]
    have := blk_new (w.alloc (.cells #[.int .i64 a0, .int .u32 a1, .int .i64 a2, .int .i64 a3, .int .u32 a4, .int .u32 a5, .int .u32 a6, .int .u32 a7, .slice A8 l8.length c8, .slice A9 l9.length c9] 28)) (.cells #[.int .i64 a0, .int .u32 a1, .int .i64 a2, .int .i64 a3, .int .u32 a4, .int .u32 a5, .int .u32 a6, .int .u32 a7, .slice B8 l8.length d8, .slice B9 l9.length d9] 28)
    rwa [World.size_alloc] at this
  have HW : Hid (Below w.heap.size w w1) := by show Below _ _ _; rw [← hw1]; exact below_alloc (below_alloc (Below.refl _ _) _) _
  rw [hba, hbb]
  try rw [hw1]
  clear hw1 hba hbb
  have y9 := (blk_cell HA.out 9).trans rfl
  have z9 := (blk_cell HB.out 9).trans rfl
  go_wp2_with fail
  refine (HS.out _ HW.out).mono ?_
  rintro e w2 ⟨rfl, hd2⟩
  have hb2 := drawn_below hd2
  clear hd2
  have HA2 : Hid (_ = some _) := (hb2.block ba (blk_lt HA.out)).trans HA.out
  have HB2 : Hid (_ = some _) := (hb2.block bb (blk_lt HB.out)).trans HB.out
  have HW2 := Lib.hid (HW.out.trans (hb2.mono HW.out.size))
  clear y9 z9 hb2 HA HB HW HS
  have y0 := (blk_cell HA2.out 0).trans rfl
  have y1 := (blk_cell HA2.out 1).trans rfl
  have y2 := (blk_cell HA2.out 2).trans rfl
  have y3 := (blk_cell HA2.out 3).trans rfl
  have y4 := (blk_cell HA2.out 4).trans rfl
  have y5 := (blk_cell HA2.out 5).trans rfl
  have y6 := (blk_cell HA2.out 6).trans rfl
  have y7 := (blk_cell HA2.out 7).trans rfl
  have y8 := (blk_cell HA2.out 8).trans rfl
  have y9 := (blk_cell HA2.out 9).trans rfl
  have z0 := (blk_cell HB2.out 0).trans rfl
  have z1 := (blk_cell HB2.out 1).trans rfl
  have z2 := (blk_cell HB2.out 2).trans rfl
  have z3 := (blk_cell HB2.out 3).trans rfl
  have z4 := (blk_cell HB2.out 4).trans rfl
  have z5 := (blk_cell HB2.out 5).trans rfl
  have z6 := (blk_cell HB2.out 6).trans rfl
  have z7 := (blk_cell HB2.out 7).trans rfl
  have z8 := (blk_cell HB2.out 8).trans rfl
  have z9 := (blk_cell HB2.out 9).trans rfl
  have s1 := str_s3 (c := c8) H8.out HW2.out
  have s2 := str_s3 (c := d8) G8.out HW2.out
  go_wp2_with fail
  go_ret
  exact ⟨rfl, HW2.out⟩
end Go.Proofs.Ytnkajghemggaaaa
end

section
namespace Go.Proofs.Ytnkajghemggaaaa
open Go.RowKit Go.Proofs.Ytnkajghemggaaaa.Pr Go.Proofs.YtnkajghemggaaaaW.PrintWords Go.Proofs.YtnkajghemggaaaaW.PrintLast Go.Proofs.YtnkajghemggaaaaW.PrintMore
attribute [local go_sem] max2_int min2_int max_two min_two max_three min_three max_four min_four
set_option linter.unusedVariables false
set_option linter.unusedSimpArgs false

abbrev OptF := S48
/-- A call of a function value that stands in a slot, one argument. -/
theorem goesv1 {P : Program} {ops : Array Oper} {Q : Exit → Act → World → Prop} {rest : List Oper} {oi : Oper} {a : Act} {w : World} (N : Option Tmp) (hd : oi.dst = N) (hg : oi.guard = none) {gf : Nat} {lb : Array Value} (c x : Operand) (ts : Array TypeId)
    (hop : oi.op = .call { callee := .value c, args := #[x], argTypes := ts }) (hc : a.eval c = .func (.func gf) #[] lb) {v : Value} (hx : a.eval x = v) (eg : ∀ args w, (callFunc gf args).run P w = .ok (.enter gf args) w)
    (h : Calls P gf (#[v] ++ lb) w fun e w' => ∃ u, e = .returned u ∧ wpList P ops Q rest (a.put N u) w') : wpList P ops Q (oi :: rest) a w := by
  refine wpList_plain hg fun K hK => ?_
  unfold Oper.wp
  have he := eg (#[v] ++ lb) w
  have hrun : (execOp a.eval oi).run P w = .ok (.enter gf (#[v] ++ lb)) w := by
    unfold execOp
    simp [hop, resolve, Deferred.ofValue, invoke, hc, hx, he]
  rw [hrun, Oper.upon_enter]
  refine h.mono fun e w'' hh => ?_
  obtain ⟨u, rfl, hk⟩ := hh
  subst hd
  exact hK _ _ hk

theorem rd_opt (l : List OptF) {i : Nat} (h : i < l.length) : rd_T48 l (i : Int) = l[i] := by
  unfold rd_T48
  rw [Int.toNat_natCast, List.getD_eq_getElem?_getD, List.getElem?_eq_getElem h]; rfl
/-- The option that is to come. -/
theorem at_opt {w : World} {A : Option Addr} {l : List OptF} (hC : Kd.C k48 w A l.length l) {k : Nat} (hk : k < l.length) :
    ∃ ad A1 c1, A = some ad ∧ w.cell? (ad.add (k * 2)) = some (.int .i64 l[k].f0) ∧ w.cell? ⟨(ad.add (k * 2)).block, (ad.add (k * 2)).off + 1, none⟩ = some (.slice A1 l[k].f1.length c1) ∧ l[k].f1.length ≤ c1 ∧ (Kd.int .u8).C w A1 l[k].f1.length l[k].f1 := by
  have := at_T48 hC (k : Int) (by omega) (by omega)
  rw [rd_opt l hk, Int.toNat_natCast] at this
  exact this

/-- The place of the first one of which something is true; below 0: there is none. -/
def ixOf (p : OptF → Bool) (l : List OptF) : Int := if l.findIdx p < l.length then (l.findIdx p : Int) else -1
theorem ix_at {p : OptF → Bool} {l : List OptF} {k : Nat} (hk : k < l.length) (h0 : ∀ x ∈ l.take k, p x = false) (h1 : p l[k] = true) : ixOf p l = k := by
  have e : l.findIdx p = k := by
    rw [List.findIdx_eq hk]
    refine ⟨h1, fun j hj => ?_⟩
    exact h0 _ (by rw [List.mem_iff_getElem]; exact ⟨j, by rw [List.length_take]; omega, by rw [List.getElem_take]⟩)
  unfold ixOf
  rw [e, if_pos hk]
theorem ix_none {p : OptF → Bool} {l : List OptF} (h0 : ∀ x ∈ l, p x = false) : ixOf p l = -1 := by
  unfold ixOf
  rw [if_neg]
  intro h
  have := List.findIdx_getElem (w := h)
  rw [h0 _ (List.getElem_mem _)] at this
  cases this

set_option maxHeartbeats 2000000 in
set_option maxRecDepth 100000 in
theorem ix_calls (p : OptF → Bool) (gf : Nat) (lb : Array Value) (eg : ∀ args w, (callFunc gf args).run Try.prog w = .ok (.enter gf args) w) (A : Option Addr) (c : Nat) (l : List OptF) (w : World) (hC : Kd.C k48 w A l.length l) (hc : l.length ≤ c)
    (hcl : ∀ (k : Nat) (hk : k < l.length) (A1 : Option Addr) (c1 : Nat) (W : World), Below w.heap.size w W → Calls Try.prog gf (#[.agg #[.int .i64 l[k].f0, .slice A1 l[k].f1.length c1]] ++ lb) W fun e W' => e = .returned (.bool (p l[k])) ∧ Below W.heap.size W W') :
    Calls Try.prog 40 #[.slice A l.length c, .func (.func gf) #[] lb] w fun e w' => e = .returned (.int .i64 (ixOf p l)) ∧ Below w.heap.size w w' := by
  have HC := Lib.hid hC
  have HE := Lib.hid eg
  have HCL := Lib.hid hcl
  have hl : l.length ≤ 9223372036854775807 := hC.2.1
  clear hC eg hcl
  go_enter Try.func40, Try.ntmps40
  go_wp2_with fail
  go_loopw [8] (fun i wr => ∃ k : Nat, k ≤ l.length ∧ i = .int .i64 k ∧ Hid (∀ x ∈ l.take k, p x = false) ∧ Hid (Below w.heap.size w wr)) (fun i _ => l.length - (intOf i).toNat)
  case atStart => exact ⟨0, Nat.zero_le _, rfl, by show ∀ x ∈ l.take 0, p x = false; simp, Below.refl _ _⟩
  case round =>
    obtain ⟨k, hk, rfl, HP, HW⟩ := hrel
    by_cases hlt : k < l.length
    · obtain ⟨ad, A1, c1, rfl, hx0, hx1, _, _⟩ := at_opt HC.out hlt
      have HK := Lib.hid (HCL.out k hlt A1 c1 wr HW.out)
      obtain ⟨x, hx⟩ : ∃ x, x = l[k] := ⟨_, rfl⟩
      rw [← hx] at hx0 hx1 HK
      have HX := Lib.hid hx
      clear hx
      replace hx0 := (HW.out.cell (World.block_lt_of_cell? w _ hx0)).trans hx0
      replace hx1 := (HW.out.cell (World.block_lt_of_cell? w _ hx1)).trans hx1
      have p1 : (0 ≤ (k : Int)) = True := eq_true (by omega)
      have p2 : ((k : Int) < (l.length : Int)) = True := eq_true (by omega)
      go_wp2_with (first
        | (with_reducible refine goesv1 (oi := ⟨some 16, _, _, _, _, _⟩) (some 16) rfl rfl (.tmp 11) (.tmp 15) #[48] rfl rfl rfl HE.out ?_)
        | fail)
      refine HK.out.mono ?_
      rintro e W1 ⟨rfl, hb⟩
      refine ⟨_, rfl, ?_⟩
      have HW1 := Lib.hid (HW.out.trans (hb.mono HW.out.size))
      clear hb HK
      cases hp : p x with
      | true =>
        have HI : Hid (ixOf p l = k) := ix_at hlt HP.out (by rw [← HX.out]; exact hp)
        clear hp
        go_wp2_with fail
        go_ret
        exact ⟨by rw [HI.out]; rfl, HW1.out⟩
      | false =>
        have HP1 : Hid (∀ y ∈ l.take (k + 1), p y = false) := by
          intro y hy
          rw [List.take_succ_eq_append_getElem hlt] at hy
          rcases List.mem_append.1 hy with hy | hy
          · exact HP.out y hy
          · rw [List.mem_singleton.1 hy, ← HX.out]; exact hp
        clear hp
        go_wp2_with fail
        go_roundw
        case rel => exact ⟨k + 1, by omega, by go_num, HP1, HW1⟩
        case measure => simp [intOf]; omega
    · have p2 : ((k : Int) < (l.length : Int)) = False := eq_false (by omega)
      have HI : Hid (ixOf p l = -1) := ix_none (fun x hx => HP.out x (by rwa [List.take_of_length_le (by omega)]))
      go_wp2_with fail
      go_ret
      exact ⟨by rw [HI.out]; rfl, HW.out⟩

theorem of_calls (code : Int) (w : World) : Calls Try.prog 44 #[.int .i64 code] w fun e w' => e = .returned (.func (.func 52) #[] #[.pointer (some ⟨w.heap.size, 0, none⟩)]) ∧ w' = w.alloc (.cells #[.int .i64 code] 3) := by
  go_enter Try.func44, Try.ntmps44
  go_wp2
  go_ret
  exact ⟨rfl, rfl⟩
theorem enters_of : ∀ args w, (callFunc 52 args).run Try.prog w = .ok (.enter 52 args) w := fun args w => enters_ Try.func52 (by kernel_rfl) rfl args w
theorem of1_calls (b : Nat) (code n : Int) (A1 : Option Addr) (m c1 : Nat) (W : World) (hb : Boxed W b 3 (.int .i64 code)) :
    Calls Try.prog 52 #[.agg #[.int .i64 n, .slice A1 m c1], .pointer (some ⟨b, 0, none⟩)] W fun e W' => e = .returned (.bool (n == code)) ∧ Below W.heap.size W W' := by
  have y1 := hb.cell
  have y2 := (hb.alloc (.cells #[.int .i64 n, .slice A1 m c1] 48)).cell
  clear hb
  go_enter Try.func52, Try.ntmps52
  go_wp2_with fail
  go_ret
  exact ⟨rfl, below_alloc (Below.refl _ _) _⟩

/-! ### option.Find -/
def opFind (l : List OptF) (code : Int) : List Int × Bool := match l.find? (fun x => x.f0 == code) with | some x => (x.f1, true) | none => ([], false)
theorem find_ix {l : List OptF} {code : Int} (h : 0 ≤ ixOf (fun x => x.f0 == code) l) : ∃ (k : Nat) (hk : k < l.length), ixOf (fun x => x.f0 == code) l = k ∧ opFind l code = (l[k].f1, true) := by
  unfold ixOf at h ⊢
  by_cases hk : l.findIdx (fun x => x.f0 == code) < l.length
  · rw [if_pos hk]
    refine ⟨_, hk, rfl, ?_⟩
    unfold opFind
    rw [List.find?_eq_some_iff_getElem (p := fun x : OptF => x.f0 == code) |>.2 ⟨List.findIdx_getElem (w := hk), _, hk, rfl, fun j hj => by simpa using List.not_of_lt_findIdx hj⟩]
  · rw [if_neg hk] at h
    omega
theorem find_no {l : List OptF} {code : Int} (h : ixOf (fun x => x.f0 == code) l < 0) : ixOf (fun x => x.f0 == code) l = -1 ∧ opFind l code = ([], false) := by
  unfold ixOf at h ⊢
  by_cases hk : l.findIdx (fun x => x.f0 == code) < l.length
  · rw [if_pos hk] at h; omega
  · rw [if_neg hk]
    refine ⟨rfl, ?_⟩
    unfold opFind
    rw [List.find?_eq_none.2]
    intro x hx hp
    exact hk (List.findIdx_lt_length_of_exists ⟨x, hx, hp⟩)
def option_Find.f (l0 : List OptF) (a1 : Int) : Option (List Int × Bool) := if ∀ x ∈ l0, x.f1.length < 140737488355328 then some (opFind l0 a1) else none
set_option maxHeartbeats 2000000 in
set_option maxRecDepth 100000 in
theorem option_Find.calls (A0 : Option Addr) (c0 : Nat) (l0 : List OptF) (a1 : Int) (r1 : List Int) (r2 : Bool) (w : World) (hr0 : Kd.C k48 w A0 l0.length l0) (hc0 : l0.length ≤ c0) (h : option_Find.f l0 a1 = some (r1, r2)) :
    Calls Try.prog 29 #[.slice A0 l0.length c0, .int .i64 a1] w fun e w' => ∃ v0_ : Value, e = .returned (.tuple #[v0_, .bool r2]) ∧ Kd.R (Kd.int .u8) 5 w' w.heap.size (fun _ => True) v0_ r1 ∧ Below w.heap.size w w' := by
  unfold option_Find.f at h
  split at h
  case isFalse => cases h
  rename_i hcond
  have HD := Lib.hid hcond
  have HR : Hid (opFind l0 a1 = (r1, r2)) := Option.some.inj h
  have HC := Lib.hid hr0
  have hl : l0.length ≤ 9223372036854775807 := hr0.2.1
  have HB0 := Lib.hid (below_alloc (Below.refl w.heap.size w) (.cells #[.int .i64 a1] 3))
  have HIX : Hid (Calls Try.prog 40 #[.slice A0 l0.length c0, .func (.func 52) #[] #[.pointer (some ⟨w.heap.size, 0, none⟩)]] (w.alloc (.cells #[.int .i64 a1] 3)) fun e w' => e = .returned (.int .i64 (ixOf (fun x => x.f0 == a1) l0)) ∧ Below (w.alloc (.cells #[.int .i64 a1] 3)).heap.size (w.alloc (.cells #[.int .i64 a1] 3)) w') :=
    ix_calls (fun x => x.f0 == a1) _ _ enters_of A0 c0 l0 _ (Kd.C_alloc hr0 _) hc0 (fun k hk A1 c1 W hW => of1_calls w.heap.size a1 _ A1 _ c1 W ((hW.block _ (by simp)).trans (Boxed.new w _ _)))
  clear hcond h hr0
  obtain ⟨ix, hix⟩ : ∃ ix, ixOf (fun x : OptF => x.f0 == a1) l0 = ix := ⟨_, rfl⟩
  rw [hix] at HIX
  by_cases hneg : ix < 0
  · obtain ⟨e1, e2⟩ := find_no (l := l0) (code := a1) (by rw [hix]; exact hneg)
    obtain ⟨rfl, rfl⟩ := Prod.mk.inj (e2.symm.trans HR.out)
    clear e1 e2 HR hix
    go_enter Try.func29, Try.ntmps29
    go_wp2_with (first
      | (go_at_call 44; refine (of_calls a1 _).mono ?_; rintro e w' ⟨rfl, rfl⟩)
      | (go_at_call 40; (with_reducible refine HIX.out.mono ?_); rintro e w2 ⟨rfl, hb⟩; have HB := Lib.hid (HB0.out.trans (hb.mono HB0.out.size)); clear hb)
      | fail)
    go_ret2
    exact ⟨_, rfl, Kd.R_nil _ _ _ _ _, HB.out⟩
  · obtain ⟨k, hk, e1, e2⟩ := find_ix (l := l0) (code := a1) (by rw [hix]; omega)
    obtain ⟨rfl, rfl⟩ := Prod.mk.inj (e2.symm.trans HR.out)
    obtain rfl : ix = (k : Int) := hix.symm.trans e1
    obtain ⟨ad, A1, c1, rfl, hx0, hx1, hx2, hx3⟩ := at_opt HC.out hk
    have HX2 := Lib.hid hx2
    have HX3 := Lib.hid hx3
    have HL := Lib.hid (HD.out l0[k] (List.getElem_mem hk))
    obtain ⟨x, hx⟩ : ∃ x, x = l0[k].f1 := ⟨_, rfl⟩
    rw [← hx] at hx1 HX2 HX3 HL ⊢
    clear e1 e2 HR hix hx hx0 hx2 hx3
    have p1 : (0 ≤ (k : Int)) = True := eq_true (by omega)
    have p2 : ((k : Int) < (l0.length : Int)) = True := eq_true (by omega)
    go_enter Try.func29, Try.ntmps29
    go_wp2_with (first
      | (go_at_call 44; refine (of_calls a1 _).mono ?_; rintro e w' ⟨rfl, rfl⟩)
      | (go_at_call 40; (with_reducible refine HIX.out.mono ?_); rintro e w2 ⟨rfl, hb⟩; have HB := Lib.hid (HB0.out.trans (hb.mono HB0.out.size)); clear hb; have x1 := (HB.out.cell (World.block_lt_of_cell? w _ hx1)).trans hx1; have HCL := Lib.hid (clone_calls A1 c1 x w2 (Kd.C_below HX3.out HB.out) HX2.out HL.out))
      | (go_at_call 31; (with_reducible refine HCL.out.mono ?_); rintro e w3 ⟨v3, rfl, h3, b3⟩; have HR3 := Lib.hid (Kd.R_lower h3 HB.out.size); have HB3 := Lib.hid (HB.out.trans (b3.mono HB.out.size)); clear h3 b3)
      | fail)
    go_ret2
    exact ⟨_, rfl, HR3.out, HB3.out⟩
end Go.Proofs.Ytnkajghemggaaaa
end

section
namespace Go.Proofs.Ytnkajghemggaaaa
open Go.RowKit Go.Proofs.Ytnkajghemggaaaa.Pr Go.Proofs.YtnkajghemggaaaaW.PrintWords Go.Proofs.YtnkajghemggaaaaW.PrintLast Go.Proofs.YtnkajghemggaaaaW.PrintMore
set_option linter.unusedVariables false
set_option linter.unusedSimpArgs false

theorem o_below_grown {w W W1 : World} {row : Option Nat} (hb : Below w.heap.size w W) (hg : W.grownBy W1 row) (h : ∀ k, row = some k → w.heap.size ≤ k) : Below w.heap.size w W1 :=
  hb.trans ⟨hg.os, hg.tape, hg.output, hg.size, fun k hk => hg.block k (Nat.lt_of_lt_of_le hk hb.size) (fun e => by have := h k e.symm; omega)⟩
theorem oinfo : (Try.prog.info? 48).map (fun i => (i.zero, i.size, i.bytes)) = some (some (.agg #[.int .i64 0, .slice none 0 0]), 2, 32) := by kernel_rfl
theorem opt_heap : Kd.Heap k48 := Kd.heap_iso _ (Kd.heap_pair (Kd.heap_int .i64) (Kd.heap_slice 5 (Kd.heap_int .u8)))
/-- A row of options of the call's own; their data is only read. -/
abbrev ON (w : World) (base : Nat) (ok : Nat → Prop) (v : Value) (l : List OptF) : Prop := Kd.N k48 48 w base ok v l

/-- A box of an option. -/
abbrev Boxed2 (W : World) (b : Nat) (n : Int) (v : Value) : Prop := W.heap[b]? = some (.cells #[.int .i64 n, v] 48 (0, 0))
/-! ### what a put makes -/
def opPut (l : List OptF) (code : Int) (data : List Int) : List OptF :=
  if 0 ≤ ixOf (fun x => x.f0 == code) l then l.take (ixOf (fun x => x.f0 == code) l).toNat ++ [⟨code, data⟩] ++ (l.drop ((ixOf (fun x => x.f0 == code) l).toNat + 1)).filter (fun x => !(x.f0 == code)) else l ++ [⟨code, data⟩]

end Go.Proofs.Ytnkajghemggaaaa
end

section
namespace Go.Proofs.Ytnkajghemggaaaa
open Go.RowKit Go.Proofs.Ytnkajghemggaaaa.Pr Go.Proofs.YtnkajghemggaaaaW.PrintWords Go.Proofs.YtnkajghemggaaaaW.PrintLast Go.Proofs.YtnkajghemggaaaaW.PrintMore
attribute [local go_sem] max2_int min2_int max_two min_two max_three min_three max_four min_four
set_option linter.unusedVariables false
set_option linter.unusedSimpArgs false

set_option maxHeartbeats 1000000 in
set_option maxRecDepth 100000 in
theorem oclone_ok (ok : Nat → Prop) (A : Option Addr) (c : Nat) (l : List OptF) (w : World) (hF : Kd.F k48 w ok A l.length l) (hfr : ∀ k, w.heap.size ≤ k → ok k) (hc : l.length ≤ c) (hl : l.length ≤ 1000000) :
    Calls Try.prog 36 #[.slice A l.length c] w fun e w' => ∃ v, e = .returned v ∧ ON w' w.heap.size ok v l ∧ Below w.heap.size w w' := by
  have HF := Lib.hid (Kd.F_bound hF)
  have HFR := Lib.hid hfr
  have HL := Lib.hid hl
  have hC := Kd.F_now hF
  have hq := Lib.run_eql_slice_nil (P := Try.prog) w 26 48 A l.length c 0 0 Try.underlying26
  have HW := Lib.hid (Below.refl w.heap.size w)
  clear hF hl hfr
  cases A with
  | none =>
    obtain rfl : l = [] := by
      cases l with
      | nil => rfl
      | cons x xs =>
        obtain ⟨ad, h, _⟩ := hC.2.2 (by simp)
        cases h
    clear hC HF
    simp only [List.length_nil] at hq ⊢
    go_enter Try.func36, Try.ntmps36
    go_wp2
    go_ret
    exact ⟨_, rfl, Kd.N_nil _ _ _ _ _, HW.out⟩
  | some ad =>
    clear hC
    go_enter Try.func36, Try.ntmps36
    go_wp2_with (first
      | ((with_reducible refine gate_dst (N := 5) rfl ?_); (try (refine gate_guard (by rfl) ?_; dsimp only)); refine Kd.R_lit k48 (w0 := w) w.heap.size 48 ?hg (N := 5) ?hd (xs := ([] : List OptF)) (inner := []) (ok := ok) (okp := ok) ?hr ?hp (fun _ hk => hk) (HFR.out _ (Nat.le_refl _)) (Below.refl _ _) (Nat.le_refl _) (by simp) ?_; (case hd => rfl); (case hg => rfl); (case hr => first | (go_simp; done) | (go_simp; rfl)); (case hp => exact (Reps.none _ _)); intro v3 w3 ho3 hb3 _ _; have HO3 := Lib.hid (Kd.R_N ho3); have HW3 := Lib.hid hb3; clear ho3 hb3)
      | ((with_reducible refine gate_builtin (b := .append) (xs := #[.tmp 5, .tmp 6]) rfl ?_); (try (refine gate_guard (by rfl) ?_; dsimp only)); at_builtin; refine Kd.N_append_rows k48 (w0 := w) w.heap.size rfl (.tmp 5) (.tmp 6) 26 48 (.agg #[.int .i64 0, .slice none 0 0]) 32 rfl Try.underlying26 oinfo rfl (by decide) (by omega) v3 [] l _ _ _ ok (fun k => ok k ∧ k < w.heap.size) rfl rfl HO3.out (Kd.F_below HF.out HW3.out) (fun k hk => ⟨hk.1, fun e => by have := Kd.N_base HO3.out k e.symm; have := hk.2; omega⟩) (fun k hk => HFR.out k (Nat.le_trans HW3.out.size hk)) HW3.out HW3.out.size (by have := HL.out; simp; omega) ?_; intro v5 w5 ho5 hb5 hg5 hat5; rw [List.nil_append] at ho5; have HO5 := Lib.hid ho5; have HW5 := Lib.hid hb5; clear ho5 hg5 hat5 hb5)
      | fail)
    go_ret
    exact ⟨_, rfl, HO5.out, HW5.out⟩
theorem oclone_calls (A : Option Addr) (c : Nat) (l : List OptF) (w : World) (hF : Kd.F k48 w (fun k => k < w.heap.size) A l.length l) (hc : l.length ≤ c) (hl : l.length ≤ 1000000) :
    Calls Try.prog 36 #[.slice A l.length c] w fun e w' => ∃ v, e = .returned v ∧ ON w' w.heap.size (fun _ => True) v l ∧ Below w.heap.size w w' :=
  oclone_ok (fun _ => True) A c l w (Kd.F_mono hF (fun _ _ => trivial)) (fun _ _ => trivial) hc hl

set_option maxHeartbeats 2000000 in
set_option maxRecDepth 100000 in
theorem owned_ok (ok : Nat → Prop) (A : Option Addr) (c : Nat) (l : List OptF) (w : World) (hF : Kd.F k48 w ok A l.length l) (hfr : ∀ k, w.heap.size ≤ k → ok k) (hc : l.length ≤ c) (hl : l.length ≤ 1000000) (hd : ∀ x ∈ l, x.f1.length < 140737488355328) :
    Calls Try.prog 45 #[.slice A l.length c] w fun e w' => ∃ v, e = .returned v ∧ ON w' w.heap.size ok v l ∧ Below w.heap.size w w' := by
  have HF := Lib.hid hF
  have HFR := Lib.hid hfr
  have HD := Lib.hid hd
  clear hF hd hfr
  go_enter Try.func45, Try.ntmps45
  go_upto_region 2 with (go_at_call 36; refine (oclone_ok ok A c l _ HF.out HFR.out hc hl).mono ?_; rintro e w1 ⟨v1, rfl, hn, hb⟩; have HN1 := Lib.hid hn; have HW1 := Lib.hid hb; clear hn hb)
  obtain ⟨Av, cv, rfl⟩ := Kd.N_slice HN1.out
  go_wp2_with fail
  go_loopw [10] (fun i wr => ∃ k : Nat, k ≤ l.length ∧ i = .int .i64 k ∧ Hid (ON wr w.heap.size ok (.slice Av l.length cv) l) ∧ Hid (Below w.heap.size w wr)) (fun i _ => l.length - (intOf i).toNat)
  case atStart => exact ⟨0, Nat.zero_le _, rfl, HN1, HW1⟩
  case round =>
    clear HN1 HW1
    obtain ⟨k, hk, rfl, HN, HW⟩ := hrel
    by_cases hlt : k < l.length
    · obtain ⟨q, cap, he, hq1, hq2, _⟩ := Kd.N_form HN.out (by omega)
      obtain ⟨adq, hadq⟩ : ∃ a, a = (⟨q, 0, none⟩ : Addr) := ⟨_, rfl⟩
      injection he with e1 _ e3
      subst e3
      have HN' := Lib.hid HN.out
      rw [e1] at HN'
      obtain ⟨cs, hcl, hK, hcc, hfz⟩ := Kd.N_elem HN'.out ⟨0, []⟩ (k : Int) (by omega) (by omega)
      rw [Int.toNat_natCast] at hK hcc hfz
      obtain ⟨x, hx⟩ : ∃ x, x = l[k] := ⟨_, rfl⟩
      rw [show l.getD k ⟨0, []⟩ = x from by rw [List.getD_eq_getElem?_getD, List.getElem?_eq_getElem hlt, hx]; rfl] at hK
      have HXL : Hid (x.f1.length < 140737488355328) := by show _ < _; rw [hx]; exact HD.out _ (List.getElem_mem hlt)
      have HX := Lib.hid hx
      obtain ⟨A1, c1, rfl, hl1, hF1⟩ := k48_openF hK
      have a2 : adq.add (k * 2) = ⟨q, k * 2, none⟩ := by rw [hadq, add_at, Nat.zero_add]
      have y0 : wr.cell? (adq.add (k * 2)) = some (.int .i64 x.f0) := by rw [a2]; exact hcc 0 _ rfl
      have y1 : wr.cell? ⟨(adq.add (k * 2)).block, (adq.add (k * 2)).off + 1, none⟩ = some (.slice A1 x.f1.length c1) := by rw [a2]; exact hcc 1 _ rfl
      have z1 : wr.frozen? ⟨(adq.add (k * 2)).block, (adq.add (k * 2)).off + 1, none⟩ = false := by rw [a2]; exact hfz 1
      have HF1 := Lib.hid hF1
      have HL1 := Lib.hid hl1
      have HA2 := Lib.hid a2
      have HCC := Lib.hid hcc
      have HQ : Hid (w.heap.size ≤ q ∧ q < wr.heap.size) := ⟨hq1, hq2⟩
      rw [← hadq] at e1
      subst e1
      have p1 : (0 ≤ (k : Int)) = True := eq_true (by omega)
      have p2 : ((k : Int) < (l.length : Int)) = True := eq_true (by omega)
      have HADQ := Lib.hid hadq
      clear hx hK hcc hfz hF1 hl1 a2 hadq HN hq1 hq2
      have HWA := Lib.hid (below_alloc (Below.refl wr.heap.size wr) (.cells #[.int .i64 x.f0, .slice A1 x.f1.length c1] 48))
      have HNA := Lib.hid (Kd.N_alloc HN'.out (.cells #[.int .i64 x.f0, .slice A1 x.f1.length c1] 48))
      have HCA := Lib.hid (Kd.C_alloc (Kd.F_now HF1.out) (.cells #[.int .i64 x.f0, .slice A1 x.f1.length c1] 48))
      go_wp2_with fail
      refine (clone_calls A1 c1 x.f1 _ HCA.out HL1.out HXL.out).mono ?_
      rintro e w4 ⟨v4, rfl, hv4, hb4⟩
      have HN4 := Lib.hid (Kd.N_below HNA.out hb4)
      have HB4 := Lib.hid (HWA.out.trans (hb4.mono HWA.out.size))
      have HV4 := Lib.hid (Kd.R_reok (ok := fun k => wr.heap.size ≤ k) rfl hv4 (fun j hj => by have := Kd.R_base hv4 j hj; have := HWA.out.size; omega))
      obtain ⟨A4, c4, rfl⟩ := Kd.R_slice hv4
      clear hv4 hb4 y0 y1 z1 HCC HWA HNA HCA
      obtain ⟨cs4, hcl4, hK4, hcc4, hfz4⟩ := Kd.N_elem HN4.out ⟨0, []⟩ (k : Int) (by omega) (by omega)
      rw [Int.toNat_natCast] at hK4 hcc4 hfz4
      obtain ⟨A5, c5, rfl, _, _⟩ := k48_openF hK4
      have y1 : w4.cell? ⟨(adq.add (k * 2)).block, (adq.add (k * 2)).off + 1, none⟩ = some (.slice A5 (l.getD k ⟨0, []⟩).f1.length c5) := by rw [HA2.out]; exact hcc4 1 _ rfl
      have z1 : w4.frozen? ⟨(adq.add (k * 2)).block, (adq.add (k * 2)).off + 1, none⟩ = false := by rw [HA2.out]; exact hfz4 1
      have HXG : Hid (l.getD k ⟨0, []⟩ = x) := by show _ = _; rw [List.getD_eq_getElem?_getD, List.getElem?_eq_getElem hlt, HX.out]; rfl
      have HSEG := Lib.hid (Kd.N_seg HN4.out (k : Int) (by omega) (by omega) (seg := [.slice A4 x.f1.length c4]) (j := 1) hcl4 (by rw [Int.toNat_natCast]; exact hcc4) (by show 1 + 1 ≤ 2; decide) (x' := x) (okp := fun j => wr.heap.size ≤ j)
        (by rw [HXG.out]; exact k48_mkF w4 _ x (Kd.R_reads' HV4.out).2.1 (Kd.R_F HV4.out)) (fun j hj => ⟨HFR.out j (Nat.le_trans HW.out.size hj), fun e => by have := HQ.out.2; omega⟩))
      clear hK4 hcc4 hfz4 hcl4
      have hw5 : w4.setCell ⟨(adq.add (k * 2)).block, (adq.add (k * 2)).off + 1, none⟩ (.slice A4 x.f1.length c4) = w4.setCells q ((k : Int).toNat * 2 + 1) [.slice A4 x.f1.length c4] := by rw [HA2.out, Int.toNat_natCast]; rfl
      have HW5 := Lib.hid hw5
      clear hw5
      go_wp2_with fail
      go_roundw
      case rel =>
        have h1 : Hid (ON (w4.setCell ⟨(adq.add (k * 2)).block, (adq.add (k * 2)).off + 1, none⟩ (.slice A4 x.f1.length c4)) w.heap.size ok (.slice (some adq) l.length cv) l) := by
          show ON _ _ _ _ _
          rw [HW5.out, HADQ.out]
          have := HSEG.out.1
          rw [Int.toNat_natCast, show l.set k x = l from by rw [HX.out]; exact List.set_getElem_self ..] at this
          exact this
        have h2 : Hid (Below w.heap.size w (w4.setCell ⟨(adq.add (k * 2)).block, (adq.add (k * 2)).off + 1, none⟩ (.slice A4 x.f1.length c4))) := by
          show Below _ _ _
          rw [HW5.out]
          exact o_below_grown (HW.out.trans (HB4.out.mono HW.out.size)) HSEG.out.2 (fun j hj => by injection hj with hj; rw [← hj]; exact HQ.out.1)
        first
          | exact ⟨k + 1, by omega, by go_num, h1, h2⟩
          | ((repeat apply Exists.intro); exact ⟨⟨k + 1, by omega, by go_num, h1, h2⟩, rfl⟩)
      case measure => simp [intOf]; omega
    · have p2 : ((k : Int) < (l.length : Int)) = False := eq_false (by omega)
      go_wp2_with fail
      go_ret
      exact ⟨_, rfl, HN.out, HW.out⟩
theorem owned_calls (A : Option Addr) (c : Nat) (l : List OptF) (w : World) (hF : Kd.F k48 w (fun k => k < w.heap.size) A l.length l) (hc : l.length ≤ c) (hl : l.length ≤ 1000000) (hd : ∀ x ∈ l, x.f1.length < 140737488355328) :
    Calls Try.prog 45 #[.slice A l.length c] w fun e w' => ∃ v, e = .returned v ∧ ON w' w.heap.size (fun _ => True) v l ∧ Below w.heap.size w w' :=
  owned_ok (fun _ => True) A c l w (Kd.F_mono hF (fun _ _ => trivial)) (fun _ _ => trivial) hc hl hd
end Go.Proofs.Ytnkajghemggaaaa
end

section
namespace Go.Proofs.Ytnkajghemggaaaa
open Go.RowKit Go.Proofs.Ytnkajghemggaaaa.Pr Go.Proofs.YtnkajghemggaaaaW.PrintWords Go.Proofs.YtnkajghemggaaaaW.PrintLast Go.Proofs.YtnkajghemggaaaaW.PrintMore
attribute [local go_sem] max2_int min2_int max_two min_two max_three min_three max_four min_four
set_option linter.unusedVariables false
set_option linter.unusedSimpArgs false

/-- All but the blocks of S is as it was. -/
structure OFr (w W : World) (S : Nat → Prop) : Prop where
  os : W.os = w.os
  tape : W.tape = w.tape
  output : W.output = w.output
  size : w.heap.size ≤ W.heap.size
  block : ∀ k, k < w.heap.size → ¬ S k → W.heap[k]? = w.heap[k]?
theorem OFr.refl (w : World) (S : Nat → Prop) : OFr w w S := ⟨rfl, rfl, rfl, Nat.le_refl _, fun _ _ _ => rfl⟩
theorem OFr.below {w W W2 : World} {S : Nat → Prop} (h : OFr w W S) (hb : Below W.heap.size W W2) : OFr w W2 S := ⟨hb.os.trans h.os, hb.tape.trans h.tape, hb.output.trans h.output, Nat.le_trans h.size hb.size, fun k hk hn => (hb.block k (Nat.lt_of_lt_of_le hk h.size)).trans (h.block k hk hn)⟩
theorem OFr.cells {w W : World} {S : Nat → Prop} (h : OFr w W S) {q : Nat} (hq : S q) (o : Nat) (vs : List Value) : OFr w (W.setCells q o vs) S := by
  obtain ⟨h1, h2, h3, h4⟩ := setCells_same q vs o W
  exact ⟨h1.trans h.os, h2.trans h.tape, h3.trans h.output, by rw [h4]; exact h.size, fun k hk hn => (setCells_far vs o k (fun e => hn (e ▸ hq))).trans (h.block k hk hn)⟩
theorem OFr.to_below {w W : World} {S : Nat → Prop} {B : Nat} (h : OFr w W S) (hB : B ≤ w.heap.size) (hS : ∀ k, S k → B ≤ k) : Below B w W :=
  ⟨h.os, h.tape, h.output, h.size, fun k hk => h.block k (by omega) (fun hs => by have := hS k hs; omega)⟩

theorem N_tail {α : Type} {d : Kd α} {e : Nat} {w : World} {base : Nat} {ok : Nat → Prop} {q n c o : Nat} {vs : List Value} {xs : List α} (h : Kd.N d e w base ok (.slice (some ⟨q, 0, none⟩) n c) xs) (ho : xs.length * d.sz ≤ o) (hl : o + vs.length ≤ c * d.sz) :
    Kd.N d e (w.setCells q o vs) base ok (.slice (some ⟨q, 0, none⟩) n c) xs := by
  obtain ⟨h0, rows, hr, hR, hf⟩ := h
  refine ⟨h0, rows, hr, ?_, fun j x cs hx hc => Kd.FK_step (hf j x cs hx hc) (fun k hk _ => setCells_far vs o k (fun e => hk.2 (by rw [e]; simp [Value.ownBlock])))⟩
  obtain ⟨ha, inner, ⟨hi, hown⟩, hrep⟩ := hR
  refine ⟨ha, inner, ⟨hi, ?_⟩, hrep⟩
  rcases hown with ⟨e1, _⟩ | ⟨g, cap, cur, e1, hb, hh, hn, hm, hs, ht⟩
  · cases e1
  · injection e1 with e1 e2 e3
    injection e1 with e1
    injection e1 with e1 _ _
    subst e1
    subst e2
    subst e3
    obtain ⟨cur', h1, h2, h3⟩ := setCells_row vs o w cur hh (by rw [hs]; exact hl)
    refine .inr ⟨q, c, cur', rfl, hb, h1, hn, hm, h2.trans hs, ?_⟩
    have hsz : (Kd.raw d.sz).sz = d.sz := rfl
    rw [hsz] at ht hs ⊢
    rw [hr] at ht ⊢
    have hcl : cur.toList.length = c * d.sz := by rw [Array.length_toList, hs]
    rw [← ht, h3, List.append_assoc, List.take_append_of_le_length (by rw [List.length_take, hcl]; omega), List.take_take, Nat.min_eq_left ho]
theorem N_cells {α : Type} {d : Kd α} {e : Nat} {w : World} {base : Nat} {ok : Nat → Prop} {q n c : Nat} {xs : List α} (h : Kd.N d e w base ok (.slice (some ⟨q, 0, none⟩) n c) xs) : ∃ cur, w.heap[q]? = some (.cells cur e (0, 0)) ∧ cur.size = c * d.sz ∧ n ≤ c ∧ n = xs.length := by
  obtain ⟨h0, rows, hr, ⟨ha, inner, ⟨hi, hown⟩, hrep⟩, hf⟩ := h
  rcases hown with ⟨e1, _⟩ | ⟨g, cap, cur, e1, hb, hh, hn, hm, hs, ht⟩
  · cases e1
  · injection e1 with e1 e2 e3
    injection e1 with e1
    injection e1 with e1 _ _
    subst e1
    subst e2
    subst e3
    exact ⟨cur, hh, hs, hn, hr⟩
def ozero (m : Nat) : List Value := (Builtin.zeroCells #[.int .i64 0, .slice none 0 0] m).toList
theorem ozero_len (m : Nat) : (ozero m).length = m * 2 := by simp [ozero, Builtin.zeroCells]
theorem ozero_one (m : Nat) : ∀ v ∈ ozero m, v.oneCell' = true := by
  intro v hv
  simp only [ozero, Builtin.zeroCells, Array.toList_map, List.mem_map] at hv
  obtain ⟨i, _, rfl⟩ := hv
  have : i % 2 = 0 ∨ i % 2 = 1 := by omega
  rcases this with h | h <;> simp [h] <;> rfl
theorem oclear_run (q n c i m : Nat) (w : World) (base : Nat) (ok : Nat → Prop) (ys : List OptF) (h : ON w base ok (.slice (some ⟨q, 0, none⟩) n c) ys) (hm : n = i + (m + 1)) (ty : TypeId) :
    (Builtin.clear_ #[26] ty #[.slice (some ⟨q, i * 2, none⟩) (m + 1) (c - i)]).run Try.prog w = .ok (.tuple #[]) (w.setCells q (i * 2) (ozero (m + 1))) := by
  obtain ⟨i0, hinf, hzz⟩ := Option.map_eq_some_iff.1 oinfo
  simp only [Prod.mk.injEq] at hzz
  obtain ⟨hz0, hsz, _⟩ := hzz
  obtain ⟨cur, hc, hs, hn, _⟩ := N_cells h
  have h1 : ∀ j, j < (ozero (m + 1)).length → (w.cell? ⟨q, i * 2 + 0 + j, none⟩).isSome = true := fun j hj => by
    rw [ozero_len] at hj
    obtain ⟨p, hp⟩ : ∃ p, p = i * 2 + 0 + j := ⟨_, rfl⟩
    rw [← hp, blk_cell hc p]
    have : p < cur.size := by rw [hs]; show p < c * 2; omega
    simp [this]
  have h2 : ∀ j, j < (ozero (m + 1)).length → w.frozen? ⟨q, i * 2 + 0 + j, none⟩ = false := fun j hj => blk_frozen hc _
  have h3 := run_storeCells_cells (P := Try.prog) q (i * 2) (ozero (m + 1)) 0 w h1 h2 (ozero_one _)
  simp [Builtin.clear_, run_underlying Try.underlying26, zeroValue, typeInfo, hinf, hz0, Result.andThen]
  rw [show (Builtin.zeroCells (Value.agg #[.int .i64 0, .slice none 0 0]).cells (m + 1)).toList = ozero (m + 1) from rfl, h3]
  rfl

set_option maxHeartbeats 1000000 in
theorem filter_step {p : OptF → Bool} {l ys : List OptF} {i j n : Nat} (hn : ys.length = n) (hl : l.length = n) (hj : j < n) (hij : i ≤ j) (h1 : ys.take i = (l.take j).filter (fun x => !p x)) (h2 : ys.drop j = l.drop j) :
    ys[j]'(by omega) = l[j]'(by omega) ∧ (p (l[j]'(by omega)) = true → ys.take i = (l.take (j + 1)).filter (fun x => !p x) ∧ ys.drop (j + 1) = l.drop (j + 1)) ∧
      (p (l[j]'(by omega)) = false → (ys.set i (l[j]'(by omega))).take (i + 1) = (l.take (j + 1)).filter (fun x => !p x) ∧ (ys.set i (l[j]'(by omega))).drop (j + 1) = l.drop (j + 1)) := by
  have d1 := List.drop_eq_getElem_cons (l := ys) (i := j) (by omega)
  have d2 := List.drop_eq_getElem_cons (l := l) (i := j) (by omega)
  rw [h2, d2] at d1
  injection d1 with e1 e2
  refine ⟨e1.symm, fun hp => ⟨?_, e2.symm⟩, fun hp => ⟨?_, ?_⟩⟩
  · rw [h1, List.take_succ_eq_append_getElem (by omega), List.filter_append]
    simp [hp]
  · rw [List.take_succ_eq_append_getElem (by rw [List.length_set]; omega), List.take_set_of_le (by omega), h1, List.getElem_set_self, List.take_succ_eq_append_getElem (by omega), List.filter_append]
    simp [hp]
  · rw [List.drop_set_of_lt (by omega)]; exact e2.symm
theorem filter_start {p : OptF → Bool} {l : List OptF} {k : Nat} (hk : k < l.length) (h0 : ∀ x ∈ l.take k, p x = false) (h1 : p l[k] = true) : l.take k = (l.take (k + 1)).filter (fun x => !p x) := by
  rw [List.take_succ_eq_append_getElem hk, List.filter_append, List.filter_eq_self.2 (fun x hx => by rw [h0 x hx]; rfl)]
  simp [h1]
theorem ix_split (p : OptF → Bool) (l : List OptF) : (ixOf p l = -1 ∧ l.filter (fun x => !p x) = l) ∨ ∃ (k : Nat) (hk : k < l.length), ixOf p l = k ∧ l.take k = (l.take (k + 1)).filter (fun x => !p x) := by
  unfold ixOf
  by_cases h : l.findIdx p < l.length
  · rw [if_pos h]
    refine .inr ⟨_, h, rfl, filter_start h (fun x hx => ?_) (List.findIdx_getElem (w := h))⟩
    obtain ⟨j, hj, rfl⟩ := List.mem_iff_getElem.1 hx
    rw [List.length_take] at hj
    rw [List.getElem_take]
    simpa using List.not_of_lt_findIdx (by omega : j < l.findIdx p)
  · rw [if_neg h]
    refine .inl ⟨rfl, List.filter_eq_self.2 (fun x hx => ?_)⟩
    have h2 : ∀ x ∈ l, p x = false := List.findIdx_eq_length.1 (by have := List.findIdx_le_length (p := p) (xs := l); omega)
    rw [h2 x hx]; rfl

theorem OFr.own {w W : World} {q : Nat} {v : Value} (h : OFr w W (fun k => k = q)) (hv : v.ownBlock = some q) : OFr w W (fun k => v.ownBlock = some k) := ⟨h.os, h.tape, h.output, h.size, fun k hk hn => h.block k hk (fun e => hn (by rw [e]; exact hv))⟩
theorem fr_of_below {w W : World} (h : Below w.heap.size w W) (S : Nat → Prop) : OFr w W S := (OFr.refl w S).below h
set_option maxHeartbeats 4000000 in
set_option maxRecDepth 100000 in
theorem del_ok (ok : Nat → Prop) (p : OptF → Bool) (gf : Nat) (lb : Array Value) (eg : ∀ args w, (callFunc gf args).run Try.prog w = .ok (.enter gf args) w) (v : Value) (l : List OptF) (w : World) (base : Nat) (hN : ON w base ok v l) (hl : l.length ≤ 1000000)
    (hcl : ∀ (x : OptF) (A1 : Option Addr) (c1 : Nat) (W : World), OFr w W (fun k => v.ownBlock = some k) → Calls Try.prog gf (#[.agg #[.int .i64 x.f0, .slice A1 x.f1.length c1]] ++ lb) W fun e W' => e = .returned (.bool (p x)) ∧ Below W.heap.size W W') :
    Calls Try.prog 35 #[v, .func (.func gf) #[] lb] w fun e w' => ∃ v', e = .returned v' ∧ ON w' base ok v' (l.filter (fun x => !p x)) ∧ OFr w w' (fun k => v.ownBlock = some k) := by
  obtain ⟨A, c, rfl⟩ := Kd.N_slice hN
  obtain ⟨_, hc, hC⟩ := Kd.N_reads' hN
  have HIX := Lib.hid (ix_calls p gf lb eg A c l w hC hc (fun k hk A1 c1 W hW => hcl l[k] A1 c1 W (fr_of_below hW _)))
  have HN := Lib.hid hN
  have HE := Lib.hid eg
  have HCL := Lib.hid hcl
  clear hN hC eg hcl
  rcases ix_split p l with ⟨hix, hfl⟩ | ⟨k0, hk0, hix, hst⟩
  · have HF := Lib.hid hfl
    rw [hix] at HIX
    clear hix hfl
    go_enter Try.func35, Try.ntmps35
    go_wp2_with fail
    refine HIX.out.mono ?_
    rintro e w1 ⟨rfl, hb⟩
    have HB := Lib.hid hb
    clear hb
    go_wp2_with fail
    go_ret
    exact ⟨_, rfl, by rw [HF.out]; exact Kd.N_below HN.out HB.out, fr_of_below HB.out _⟩
  · obtain ⟨q, cap, he, hq1, hq2, _⟩ := Kd.N_form HN.out (by omega)
    injection he with e1 _ e3
    subst e3
    have HN0 := Lib.hid HN.out
    rw [e1] at HN0
    rw [hix] at HIX
    have HST := Lib.hid hst
    obtain ⟨adq, hadq⟩ : ∃ a, a = (⟨q, 0, none⟩ : Addr) := ⟨_, rfl⟩
    rw [← hadq] at e1
    subst e1
    have HADQ := Lib.hid hadq
    have HQ : Hid (base ≤ q ∧ q < w.heap.size) := ⟨hq1, hq2⟩
    have HOW : Hid ((Value.slice (some adq) l.length c).ownBlock = some q) := by show _ = _; rw [hadq]; simp [Value.ownBlock]
    have hadd : ∀ i : Nat, adq.add (i * 2) = ⟨q, i * 2, none⟩ := fun i => by rw [hadq, add_at, Nat.zero_add]
    have HADD := Lib.hid hadd
    clear hst hix hadq hq1 hq2 HN hadd
    go_enter Try.func35, Try.ntmps35
    go_wp2_with fail
    refine HIX.out.mono ?_
    rintro e w1 ⟨rfl, hb⟩
    have HB := Lib.hid hb
    clear hb HIX
    have p0 : ((k0 : Int) == -1) = false := beq_eq_false_iff_ne.2 (by omega)
    have p1 : ((k0 : Int) = -1) = False := eq_false (by omega)
    go_wp2_with fail
    go_loopw [5, 6] (fun vi vj wr => ∃ (i j : Nat) (ys : List OptF), vi = .int .i64 i ∧ vj = .int .i64 j ∧ i < j ∧ j ≤ l.length ∧ Hid (ON wr base ok (.slice (some ⟨q, 0, none⟩) l.length c) ys) ∧ Hid (ys.length = l.length ∧ ys.take i = (l.take j).filter (fun x => !p x) ∧ ys.drop j = l.drop j) ∧ Hid (OFr w wr (fun k => k = q))) (fun _ vj _ => l.length - (intOf vj).toNat)
    case atStart => exact ⟨k0, k0 + 1, l, rfl, by go_num, by omega, by omega, Kd.N_below HN0.out HB.out, ⟨rfl, HST.out, rfl⟩, fr_of_below HB.out _⟩
    case round =>
      clear HB p0 p1 HN0
      obtain ⟨i, j, ys, rfl, rfl, hij, hj, HN, HYS, HW⟩ := hrel
      by_cases hlt : j < l.length
      · obtain ⟨f1, f2, f3⟩ := filter_step HYS.out.1 rfl hlt (by omega) HYS.out.2.1 HYS.out.2.2
        obtain ⟨x, hx⟩ : ∃ x, x = l[j] := ⟨_, rfl⟩
        rw [← hx] at f1 f2 f3
        have HYL : Hid (ys.length = l.length) := HYS.out.1
        have F2 := Lib.hid f2
        have F3 := Lib.hid f3
        obtain ⟨cs, hcs, hK, hcc, _⟩ := Kd.N_elem HN.out ⟨0, []⟩ (j : Int) (by omega) (by omega)
        rw [Int.toNat_natCast] at hK hcc
        rw [show ys.getD j ⟨0, []⟩ = x from by rw [List.getD_eq_getElem?_getD, List.getElem?_eq_getElem (by rw [HYL.out]; omega)]; exact f1] at hK
        obtain ⟨A1, c1, rfl, hl1, _⟩ := k48_openF hK
        have HK := Lib.hid hK
        have y0 : wr.cell? (adq.add (j * 2)) = some (.int .i64 x.f0) := by rw [HADD.out]; exact hcc 0 _ rfl
        have y1 : wr.cell? ⟨(adq.add (j * 2)).block, (adq.add (j * 2)).off + 1, none⟩ = some (.slice A1 x.f1.length c1) := by rw [HADD.out]; exact hcc 1 _ rfl
        obtain ⟨bx, hbx⟩ : ∃ b, wr.heap.size = b := ⟨_, rfl⟩
        obtain ⟨Wa, hWa⟩ : ∃ W, wr.alloc (.cells #[.int .i64 x.f0, .slice A1 x.f1.length c1] 48) = W := ⟨_, rfl⟩
        have HWA : Hid (Below wr.heap.size wr Wa) := by show Below _ _ _; rw [← hWa]; exact below_alloc (Below.refl _ _) _
        have HBX : Hid (Boxed2 Wa bx x.f0 (.slice A1 x.f1.length c1)) := by show _ = _; rw [← hWa, ← hbx]; exact blk_new _ _
        have HCW := Lib.hid (HCL.out x A1 c1 Wa ((HW.out.below HWA.out).own HOW.out))
        have p1 : (0 ≤ (j : Int)) = True := eq_true (by omega)
        have p2 : ((j : Int) < (l.length : Int)) = True := eq_true (by omega)
        clear hK hcc hcs f1 f2 f3 hx HYS
        go_upto_region 8 with fail
        clear y0 y1
        have e0 : Wa.cell? ⟨bx, 0, none⟩ = some (.int .i64 x.f0) := (blk_cell HBX.out 0).trans rfl
        have e1 : Wa.cell? ⟨bx, 1, none⟩ = some (.slice A1 x.f1.length c1) := (blk_cell HBX.out 1).trans rfl
        clear hWa hbx
        cases hp : p x with
        | true =>
          rw [hp] at HCW
          have G2 := Lib.hid (F2.out hp)
          clear hp
          go_wp2_with (first
            | (with_reducible refine goesv1 (oi := ⟨some 28, _, _, _, _, _⟩) (some 28) rfl rfl (.tmp 26) (.tmp 27) #[48] rfl rfl rfl HE.out ?_)
            | fail)
          refine HCW.out.mono ?_
          rintro e W1 ⟨rfl, hb1⟩
          refine ⟨_, rfl, ?_⟩
          have HN1 := Lib.hid (Kd.N_below (Kd.N_below HN.out HWA.out) hb1)
          have HW1 := Lib.hid ((HW.out.below HWA.out).below hb1)
          clear hb1 HCW e0 e1
          go_wp2_with fail
          go_roundw
          case rel =>
            first
              | exact ⟨i, j + 1, ys, rfl, by go_num, by omega, by omega, HN1, ⟨HYL.out, G2.out⟩, HW1⟩
              | ((repeat apply Exists.intro); exact ⟨⟨i, j + 1, ys, rfl, by go_num, by omega, by omega, HN1, ⟨HYL.out, G2.out⟩, HW1⟩, rfl⟩)
          case measure => simp [intOf]; omega
        | false =>
          rw [hp] at HCW
          have G3 := Lib.hid (F3.out hp)
          clear hp
          go_wp2_with (first
            | (with_reducible refine goesv1 (oi := ⟨some 28, _, _, _, _, _⟩) (some 28) rfl rfl (.tmp 26) (.tmp 27) #[48] rfl rfl rfl HE.out ?_)
            | fail)
          refine HCW.out.mono ?_
          rintro e W1 ⟨rfl, hb1⟩
          refine ⟨_, rfl, ?_⟩
          have HN1 := Lib.hid (Kd.N_below (Kd.N_below HN.out HWA.out) hb1)
          have HW1 := Lib.hid ((HW.out.below HWA.out).below hb1)
          have HK1 := Lib.hid (Kd.FK_below (Kd.FK_below HK.out HWA.out) hb1)
          have HBX1 : Hid (Boxed2 W1 bx x.f0 (.slice A1 x.f1.length c1)) := (hb1.block bx (blk_lt HBX.out)).trans HBX.out
          clear hb1 HCW e0 e1
          obtain ⟨ci, hci, hKi, hcci, hfzi⟩ := Kd.N_elem HN1.out ⟨0, []⟩ (i : Int) (by omega) (by omega)
          rw [Int.toNat_natCast] at hKi hcci hfzi
          obtain ⟨Ai, cci, rfl, _, _⟩ := k48_openF hKi
          have e0 : W1.cell? ⟨bx, 0, none⟩ = some (.int .i64 x.f0) := (blk_cell HBX1.out 0).trans rfl
          have e1 : W1.cell? ⟨bx, 1, none⟩ = some (.slice A1 x.f1.length c1) := (blk_cell HBX1.out 1).trans rfl
          have y0 : W1.cell? (adq.add (i * 2)) = some (.int .i64 (ys.getD i ⟨0, []⟩).f0) := by rw [HADD.out]; exact hcci 0 _ rfl
          have y1 : W1.cell? ⟨(adq.add (i * 2)).block, (adq.add (i * 2)).off + 1, none⟩ = some (.slice Ai (ys.getD i ⟨0, []⟩).f1.length cci) := by rw [HADD.out]; exact hcci 1 _ rfl
          have z0 : W1.frozen? (adq.add (i * 2)) = false := by rw [HADD.out]; exact hfzi 0
          have z1 : W1.frozen? ⟨(adq.add (i * 2)).block, (adq.add (i * 2)).off + 1, none⟩ = false := by rw [HADD.out]; exact hfzi 1
          obtain ⟨cur1, hcur1, -⟩ := N_cells HN1.out
          have y2 : ∀ u, (W1.setCell (adq.add (i * 2)) u).cell? ⟨(adq.add (i * 2)).block, (adq.add (i * 2)).off + 1, none⟩ = some (.slice Ai (ys.getD i ⟨0, []⟩).f1.length cci) := fun u => by
            rw [HADD.out]
            refine (blk_cell (blk_set hcur1 (i * 2) u) (i * 2 + 1)).trans ?_
            rw [Array.getElem?_setIfInBounds_ne (by omega)]
            exact (blk_cell hcur1 (i * 2 + 1)).symm.trans (hcci 1 _ rfl)
          have z2 : ∀ u, (W1.setCell (adq.add (i * 2)) u).frozen? ⟨(adq.add (i * 2)).block, (adq.add (i * 2)).off + 1, none⟩ = false := fun u => by
            rw [HADD.out]
            exact blk_frozen (blk_set hcur1 (i * 2) u) (i * 2 + 1)
          have p3 : (0 ≤ (i : Int)) = True := eq_true (by omega)
          have p4 : ((i : Int) < (l.length : Int)) = True := eq_true (by omega)
          have HSEG := Lib.hid (Kd.N_seg HN1.out (i : Int) (by omega) (by omega) (seg := [.int .i64 x.f0, .slice A1 x.f1.length c1]) (j := 0) hci (by rw [Int.toNat_natCast]; exact hcci) (by show 0 + 2 ≤ 2; decide) (x' := x) (okp := fun k => ok k ∧ k ≠ q) HK1.out (fun k hk => hk))
          clear hKi hcci hfzi hci hcur1
          go_wp2_with fail
          go_roundw
          case rel =>
            have hw5 : (W1.setCell (adq.add (i * 2)) (.int .i64 x.f0)).setCell ⟨(adq.add (i * 2)).block, (adq.add (i * 2)).off + 1, none⟩ (.slice A1 x.f1.length c1) = W1.setCells q ((i : Int).toNat * 2 + 0) [.int .i64 x.f0, .slice A1 x.f1.length c1] := by rw [HADD.out, Int.toNat_natCast]; rfl
            have h1 : Hid (ON ((W1.setCell (adq.add (i * 2)) (.int .i64 x.f0)).setCell ⟨(adq.add (i * 2)).block, (adq.add (i * 2)).off + 1, none⟩ (.slice A1 x.f1.length c1)) base ok (.slice (some ⟨q, 0, none⟩) l.length c) (ys.set i x)) := by
              show ON _ _ _ _ _
              rw [hw5]
              exact HSEG.out.1
            have h2 : Hid (OFr w ((W1.setCell (adq.add (i * 2)) (.int .i64 x.f0)).setCell ⟨(adq.add (i * 2)).block, (adq.add (i * 2)).off + 1, none⟩ (.slice A1 x.f1.length c1)) (fun k => k = q)) := by
              show OFr _ _ _
              rw [hw5]
              exact HW1.out.cells rfl _ _
            first
              | exact ⟨i + 1, j + 1, ys.set i x, by go_num, by go_num, by omega, by omega, h1, ⟨by rw [List.length_set]; exact HYL.out, G3.out⟩, h2⟩
              | ((repeat apply Exists.intro); exact ⟨⟨i + 1, j + 1, ys.set i x, by go_num, by go_num, by omega, by omega, h1, ⟨by rw [List.length_set]; exact HYL.out, G3.out⟩, h2⟩, rfl⟩)
          case measure => simp [intOf]; omega
      · obtain rfl : j = l.length := by omega
        have p2 : ((l.length : Int) < (l.length : Int)) = False := eq_false (by omega)
        obtain ⟨i0, hinf, hzz⟩ := Option.map_eq_some_iff.1 oinfo
        simp only [Prod.mk.injEq] at hzz
        obtain ⟨m, hm⟩ : ∃ m, l.length = i + (m + 1) := ⟨l.length - i - 1, by omega⟩
        obtain ⟨cur, -, -, hn, -⟩ := N_cells HN.out
        have r1 := cut_from (P := Try.prog) 26 48 .i64 Try.underlying26 hinf 2 hzz.2.1 (some adq) l.length c (i : Int) (by omega) (by omega)
        rw [Int.toNat_natCast, if_neg (by omega), show l.length - i = m + 1 from by omega, Option.map_some] at r1
        have r2 := cut_to (P := Try.prog) 26 48 .i64 Try.underlying26 hinf (some adq) l.length c (i : Int) (by omega) (by omega) hn
        rw [Int.toNat_natCast] at r2
        obtain ⟨Wc, hWc⟩ : ∃ W, wr.setCells q (i * 2) (ozero (m + 1)) = W := ⟨_, rfl⟩
        have r3 : ∀ ty, (Builtin.clear_ #[26] ty #[.slice (some (adq.add (i * 2))) (m + 1) (c - i)]).run Try.prog wr = .ok (.tuple #[]) Wc := fun ty => by rw [HADD.out, ← hWc]; exact oclear_run q l.length c i m wr base _ ys HN.out hm ty
        have HT : Hid (ON Wc base ok (.slice (some ⟨q, 0, none⟩) i c) (l.filter (fun x => !p x))) := by
          show ON _ _ _ _ _
          have h1 := Kd.N_take HN.out (m := i) (by rw [HYS.out.1]; omega)
          rw [HYS.out.2.1, List.take_length] at h1
          have h3 : (l.filter (fun x => !p x)).length = i := by
            have := HYS.out.2.1
            rw [List.take_length] at this
            rw [← this, List.length_take, HYS.out.1]; omega
          rw [← hWc]
          exact N_tail h1 (by rw [h3]; exact Nat.le_refl _) (by rw [ozero_len]; show i * 2 + (m + 1) * 2 ≤ c * 2; omega)
        have HFR : Hid (OFr w Wc (fun k => k = q)) := by
          show OFr _ _ _
          rw [← hWc]
          exact HW.out.cells rfl _ _
        have p3 : (0 ≤ (i : Int)) = True := eq_true (by omega)
        clear hWc hinf hzz hm hn HYS HN HW
        go_wp2_with fail
        go_ret
        exact ⟨_, rfl, by rw [HADQ.out]; exact HT.out, HFR.out.own HOW.out⟩
theorem del_calls (p : OptF → Bool) (gf : Nat) (lb : Array Value) (eg : ∀ args w, (callFunc gf args).run Try.prog w = .ok (.enter gf args) w) (v : Value) (l : List OptF) (w : World) (base : Nat) (hN : ON w base (fun _ => True) v l) (hl : l.length ≤ 1000000)
    (hcl : ∀ (x : OptF) (A1 : Option Addr) (c1 : Nat) (W : World), OFr w W (fun k => v.ownBlock = some k) → Calls Try.prog gf (#[.agg #[.int .i64 x.f0, .slice A1 x.f1.length c1]] ++ lb) W fun e W' => e = .returned (.bool (p x)) ∧ Below W.heap.size W W') :
    Calls Try.prog 35 #[v, .func (.func gf) #[] lb] w fun e w' => ∃ v', e = .returned v' ∧ ON w' base (fun _ => True) v' (l.filter (fun x => !p x)) ∧ OFr w w' (fun k => v.ownBlock = some k) :=
  del_ok (fun _ => True) p gf lb eg v l w base hN hl hcl
end Go.Proofs.Ytnkajghemggaaaa
end

section
namespace Go.Proofs.Ytnkajghemggaaaa
open Go.RowKit Go.Proofs.Ytnkajghemggaaaa.Pr Go.Proofs.YtnkajghemggaaaaW.PrintWords Go.Proofs.YtnkajghemggaaaaW.PrintLast Go.Proofs.YtnkajghemggaaaaW.PrintMore
attribute [local go_sem] max2_int min2_int max_two min_two max_three min_three max_four min_four
set_option linter.unusedVariables false
set_option linter.unusedSimpArgs false

set_option maxHeartbeats 2000000 in
set_option maxRecDepth 100000 in
theorem grow_ok (ok : Nat → Prop) (n : Nat) (w : World) (hfr : ∀ k, w.heap.size ≤ k → ok k) (h0 : 0 < n) (hn : n ≤ 2000000) :
    Calls Try.prog 53 #[.slice none 0 0, .int .i64 (n : Int)] w fun e w' => ∃ v, e = .returned v ∧ ON w' w.heap.size ok v [] ∧ Below w.heap.size w w' := by
  obtain ⟨i0, hinf, hzz⟩ := Option.map_eq_some_iff.1 oinfo
  simp only [Prod.mk.injEq] at hzz
  have r0 := cut_to (P := Try.prog) 26 48 .i64 Try.underlying26 hinf none 0 0 0 (by omega) (by omega) (by omega)
  have r1 := fun (A : Option Addr) (m c : Nat) (hc : m ≤ c) => cut_to (P := Try.prog) 26 48 .i64 Try.underlying26 hinf A m c 0 (by omega) (by omega) hc
  have R1 := Lib.hid r1
  have p1 : ((n : Int) < 0) = False := eq_false (by omega)
  have p2 : (0 < (n : Int)) = True := eq_true (by omega)
  have p4 : (0 ≤ (n : Int)) = True := eq_true (by omega)
  have HW := Lib.hid (Below.refl w.heap.size w)
  have HNN := Lib.hid hn
  have HFR := Lib.hid hfr
  clear hzz hinf r1 hfr
  go_enter Try.func53, Try.ntmps53
  go_wp2_with (first
    | ((with_reducible refine gate_builtin (b := .append) (xs := #[.tmp 20, .tmp 21]) rfl ?_); (try (refine gate_guard (by rfl) ?_; dsimp only)); at_builtin; refine Kd.N_append_zeros k48 (w0 := w) w.heap.size rfl (.tmp 20) (.tmp 21) 26 3 48 (.agg #[.int .i64 0, .slice none 0 0]) 32 rfl Try.underlying26 Try.underlying3 oinfo rfl (by decide) (by decide) (.slice none 0 0) [] (⟨0, []⟩ : OptF) (n : Int) ok rfl rfl (k48_mkF _ _ ⟨0, []⟩ (Nat.le_refl _) (Kd.F_nil _ _ _)) (fun k hk => HFR.out k hk) (Kd.N_nil _ _ _ _ _) (by omega) HW.out HW.out.size (by have := HNN.out; simp; omega) ?_; intro v1 w1 hn1 hb1 _ _; obtain ⟨A1, c1, rfl⟩ := Kd.N_slice hn1; have HN1 := Lib.hid hn1; have HB1 := Lib.hid hb1; have r2 := R1.out A1 _ c1 (Kd.N_reads' hn1).2.1; clear hn1 hb1)
    | fail)
  go_ret
  exact ⟨_, rfl, Kd.N_take HN1.out (m := 0) (Nat.zero_le _), HB1.out⟩

theorem flat_take {ls : List (List OptF)} {k : Nat} (h : k < ls.length) : (ls.take (k + 1)).flatten = (ls.take k).flatten ++ ls[k] := by
  rw [List.take_succ_eq_append_getElem h, List.flatten_append]
  simp
theorem flat_le (ls : List (List OptF)) (k : Nat) : ((ls.take k).flatten).length ≤ ls.flatten.length := by
  have : ls.flatten = (ls.take k).flatten ++ (ls.drop k).flatten := by rw [← List.flatten_append, List.take_append_drop]
  rw [this, List.length_append]; omega
set_option maxHeartbeats 4000000 in
set_option maxRecDepth 100000 in
theorem concat_ok (ok : Nat → Prop) (A : Option Addr) (c : Nat) (ls : List (List OptF)) (w : World) (hF : Kd.F (Kd.slice 48 k48) w ok A ls.length ls) (hfr : ∀ k, w.heap.size ≤ k → ok k) (hc : ls.length ≤ c) (h0 : 0 < ls.flatten.length) (hs : ls.flatten.length ≤ 2000000) :
    Calls Try.prog 46 #[.slice A ls.length c] w fun e w' => ∃ v, e = .returned v ∧ ON w' w.heap.size ok v ls.flatten ∧ Below w.heap.size w w' := by
  have hll : ls.length ≤ 9223372036854775807 := Kd.F_max hF
  have HF := Lib.hid (Kd.F_bound hF)
  have HFR := Lib.hid hfr
  have HS := Lib.hid hs
  clear hF hs hfr
  go_enter Try.func46, Try.ntmps46
  go_wp2_with fail
  go_loop [3, 11] (fun s i => ∃ k : Nat, k ≤ ls.length ∧ i = .int .i64 k ∧ s = .int .i64 (((ls.take k).flatten.length : Nat) : Int)) (fun _ i => ls.length - (intOf i).toNat)
  case atStart => exact ⟨0, Nat.zero_le _, rfl, by simp⟩
  case round =>
    obtain ⟨k, hk, rfl, rfl⟩ := hrel
    by_cases hlt : k < ls.length
    · obtain ⟨ad, cs, rfl, hcs, hK, hcc, _⟩ := Kd.F_get HF.out [] (k : Int) (by omega) (by omega)
      rw [Int.toNat_natCast] at hK hcc
      obtain ⟨x, hx⟩ : ∃ x, x = ls[k] := ⟨_, rfl⟩
      rw [show ls.getD k [] = x from by rw [List.getD_eq_getElem?_getD, List.getElem?_eq_getElem hlt, hx]; rfl] at hK
      obtain ⟨Ai, ci, rfl, _, _⟩ := Kd.FK_slice_open hK
      have y0 : w.cell? (ad.add k) = some (.slice Ai x.length ci) := by have := hcc 0 _ rfl; rwa [show (Kd.slice 48 k48).sz = 1 from rfl, Nat.mul_one, Nat.add_zero] at this
      have hfl := flat_take hlt
      have hle := flat_le ls (k + 1)
      rw [hfl, ← hx, List.length_append] at hle
      have HFL := Lib.hid hfl
      have HX := Lib.hid hx
      have HLE := Lib.hid hle
      obtain ⟨n, hn⟩ : ∃ n, n = (ls.take k).flatten.length := ⟨_, rfl⟩
      rw [← hn] at HLE ⊢
      have HN := Lib.hid hn
      have hb1 : n + x.length ≤ 2000000 := Nat.le_trans HLE.out HS.out
      have p1 : (0 ≤ (k : Int)) = True := eq_true (by omega)
      have p2 : ((k : Int) < (ls.length : Int)) = True := eq_true (by omega)
      have p3 : IntKind.i64.wrap ((n : Int) + (x.length : Int)) = ((n + x.length : Nat) : Int) := by rw [IntKind.wrap_i64]; omega
      have p4 : (((n + x.length : Nat) : Int) < 0) = False := eq_false (by omega)
      have p5 : ((n : Int) + (x.length : Int) < 0) = False := eq_false (by omega)
      clear hK hcc hcs hx hfl hle hn
      go_wp2_with fail
      go_round
      case rel => exact ⟨k + 1, by omega, by go_num, by rw [HFL.out, List.length_append, ← HN.out, HX.out]; go_num⟩
      case measure => simp [intOf]; omega
    · obtain rfl : k = ls.length := by omega
      have p2 : ((ls.length : Int) < (ls.length : Int)) = False := eq_false (by omega)
      have e0 : Hid (ls.take ls.length = ls) := List.take_length ..
      obtain ⟨n, hn⟩ : ∃ n, n = (ls.take ls.length).flatten.length := ⟨_, rfl⟩
      rw [← hn]
      have HN : Hid (n = ls.flatten.length) := by show _ = _; rw [hn, e0.out]
      clear hn
      have GR := grow_ok ok n w HFR.out (by rw [HN.out]; exact h0) (by rw [HN.out]; exact HS.out)
      have HGR := Lib.hid GR
      clear GR h0
      go_wp2_with fail
      refine HGR.out.mono ?_
      rintro e w1 ⟨v1, rfl, hn1, hb1⟩
      have HN1 := Lib.hid hn1
      have HB1 := Lib.hid hb1
      clear hn1 hb1 HGR
      go_wp2_with fail
      go_loopw [6, 27] (fun v i wr => ∃ k : Nat, k ≤ ls.length ∧ i = .int .i64 k ∧ Hid (ON wr w.heap.size ok v (ls.take k).flatten) ∧ Hid (Below w.heap.size w wr)) (fun _ i _ => ls.length - (intOf i).toNat)
      case atStart => exact ⟨0, Nat.zero_le _, rfl, HN1, HB1⟩
      case round =>
        clear HN1 HB1
        obtain ⟨k, hk, rfl, HR, HW⟩ := hrel
        by_cases hlt : k < ls.length
        · obtain ⟨ad, cs, rfl, hcs, hK, hcc, _⟩ := Kd.F_get HF.out [] (k : Int) (by omega) (by omega)
          rw [Int.toNat_natCast] at hK hcc
          obtain ⟨x, hx⟩ : ∃ x, x = ls[k] := ⟨_, rfl⟩
          rw [show ls.getD k [] = x from by rw [List.getD_eq_getElem?_getD, List.getElem?_eq_getElem hlt, hx]; rfl] at hK
          obtain ⟨Ai, ci, rfl, hci, hFi⟩ := Kd.FK_slice_open hK
          have y0 : w.cell? (ad.add k) = some (.slice Ai x.length ci) := by have := hcc 0 _ rfl; rwa [show (Kd.slice 48 k48).sz = 1 from rfl, Nat.mul_one, Nat.add_zero] at this
          replace y0 := (HW.out.cell (World.block_lt_of_cell? w _ y0)).trans y0
          have hle := flat_le ls (k + 1)
          rw [flat_take hlt, ← hx, List.length_append] at hle
          have HLE := Lib.hid hle
          have HFL : Hid ((ls.take (k + 1)).flatten = (ls.take k).flatten ++ x) := by show _ = _; rw [flat_take hlt, hx]
          have HFI := Lib.hid hFi
          have p1 : (0 ≤ (k : Int)) = True := eq_true (by omega)
          have p2 : ((k : Int) < (ls.length : Int)) = True := eq_true (by omega)
          clear hK hcc hcs hx hle hFi
          go_wp2_with (first
            | ((with_reducible refine gate_builtin (b := .append) (xs := #[.tmp 31, .tmp 32]) rfl ?_); (try (refine gate_guard (by rfl) ?_; dsimp only)); at_builtin; refine Kd.N_append_rows k48 (w0 := w) w.heap.size rfl (.tmp 31) (.tmp 32) 26 48 (.agg #[.int .i64 0, .slice none 0 0]) 32 rfl Try.underlying26 oinfo rfl (by decide) (by decide) _ (ls.take k).flatten x _ _ _ ok (fun k => ok k ∧ k < w.heap.size) rfl rfl HR.out (Kd.F_below HFI.out HW.out) (fun j hj => ⟨hj.1, fun e => by have := Kd.N_base HR.out j e.symm; have := hj.2; omega⟩) (fun j hj => HFR.out j (Nat.le_trans HW.out.size hj)) HW.out HW.out.size (by have := HLE.out; have := HS.out; omega) ?_; intro v5 w5 ho5 hb5 hg5 hat5; rw [← HFL.out] at ho5; have HO5 := Lib.hid ho5; have HW5 := Lib.hid hb5; clear ho5 hg5 hat5 hb5)
            | fail)
          go_roundw
          case rel => exact ⟨k + 1, by omega, by go_num, HO5, HW5⟩
          case measure => simp [intOf]; omega
        · obtain rfl : k = ls.length := by omega
          have p2 : ((ls.length : Int) < (ls.length : Int)) = False := eq_false (by omega)
          rw [e0.out] at HR
          go_wp2_with fail
          go_ret
          exact ⟨_, rfl, HR.out, HW.out⟩
theorem concat_calls (A : Option Addr) (c : Nat) (ls : List (List OptF)) (w : World) (hF : Kd.F (Kd.slice 48 k48) w (fun k => k < w.heap.size) A ls.length ls) (hc : ls.length ≤ c) (h0 : 0 < ls.flatten.length) (hs : ls.flatten.length ≤ 2000000) :
    Calls Try.prog 46 #[.slice A ls.length c] w fun e w' => ∃ v, e = .returned v ∧ ON w' w.heap.size (fun _ => True) v ls.flatten ∧ Below w.heap.size w w' :=
  concat_ok (fun _ => True) A c ls w (Kd.F_mono hF (fun _ _ => trivial)) (fun _ _ => trivial) hc h0 hs
end Go.Proofs.Ytnkajghemggaaaa
end
