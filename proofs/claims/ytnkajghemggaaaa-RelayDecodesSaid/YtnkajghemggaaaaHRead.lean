/-
  relay.read: the tags of data, by take, with its panic recovered. Condition: bytes, fewer than 2^40.
-/
import Derived.Test.YtnkajghemggaaaaHTake
import Derived.Test.YtnkajghemggaaaaWNEv
namespace Go.Proofs.Ytnkajghemggaaaa
open Go.RowKit Go.Proofs.Ytnkajghemggaaaa.Pr Go.Proofs.YtnkajghemggaaaaW.PrintWords Go.Proofs.YtnkajghemggaaaaW.PrintLast Go.Proofs.YtnkajghemggaaaaW.PrintMore
attribute [local go_sem] max2_int min2_int max_two min_two max_three min_three max_four min_four
set_option linter.unusedVariables false
set_option linter.unusedSimpArgs false

abbrev OptR := S48
/-! ### what is read -/
def rdL (l : List Int) (acc : List OptR) : Option (List OptR) :=
  match l with
  | [] => some acc
  | [_] => none
  | h :: n :: r => if n.toNat ≤ r.length ∧ h ≠ 0 then rdL (r.drop n.toNat) (acc ++ [⟨h, r.take n.toNat⟩]) else none
termination_by l.length
decreasing_by simp only [List.length_cons, List.length_drop]; omega
def rdRes (l : List Int) : List OptR × Bool := match rdL l [] with | some r => (r, decide (0 < r.length)) | none => ([], false)
theorem rdRes_none {l : List Int} (h : rdL l [] = none) : rdRes l = ([], false) := by unfold rdRes; rw [h]
theorem rdRes_some {l : List Int} {r : List OptR} (h : rdL l [] = some r) : rdRes l = (r, decide (0 < r.length)) := by unfold rdRes; rw [h]

/-- The door: no deferred call is left, and the results stand in their cells. -/
theorem read_leaves {tmps : Array Value} {R : Ending → World → Prop} {W : World} {bl bf : Nat} {v : Value} {b : Bool} (h2 : tmps[2]? = some (.pointer (some ⟨bl, 0, none⟩))) (h3 : tmps[3]? = some (.pointer (some ⟨bf, 0, none⟩)))
    (hl : Boxed W bl 26 v) (hf : Boxed W bf 4 (.bool b)) (hv : ∃ A n c, v = .slice A n c) (h : R (.returned (.tuple #[v, .bool b])) W) : Leaves Try.prog Try.f27 tmps R [] .returning W := by
  obtain ⟨A, n, c, rfl⟩ := hv
  refine ⟨_, ?_, h⟩
  have y1 := hl.cell
  have y2 := hf.cell
  simp [results, Try.results27, go_sem, h2, h3, y1, y2]

theorem boxed_far {W : World} {b q : Nat} {t : TypeId} {v : Value} (h : Boxed W b t v) (hne : b ≠ q) (u : Value) : Boxed (W.setCell ⟨q, 0, none⟩ u) b t v := (Below.heap_setCell W ⟨q, 0, none⟩ u b hne).trans h
theorem read_ret {tmps : Array Value} {R : Ending → World → Prop} {W : World} {bl bf : Nat} {A : Option Addr} {n c : Nat} {b : Bool} (h2 : tmps[2]? = some (.pointer (some ⟨bl, 0, none⟩))) (h3 : tmps[3]? = some (.pointer (some ⟨bf, 0, none⟩)))
    (hl : Boxed W bl 26 (.slice A n c)) (hf : Boxed W bf 4 (.bool b)) (h : R (.returned (.tuple #[.slice A n c, .bool b])) (W.alloc (.cells #[] 67))) :
    bodyPostD Try.prog Try.f27 R .ret { tmps := tmps, defers := [{ target := .fn (.func 41) #[.pointer (some ⟨bl, 0, none⟩), .pointer (some ⟨bf, 0, none⟩)], args := #[] }] } W := by
  show Leaves _ _ _ _ _ _ _
  refine leaves_cons (f := 41) (args := #[.pointer (some ⟨bl, 0, none⟩), .pointer (some ⟨bf, 0, none⟩)]) (by simp) (by simp [go_sem]) ?_
  refine (catch_none bl bf _).mono ?_
  rintro e u' w'' ⟨rfl, rfl, rfl⟩
  exact read_leaves h2 h3 (hl.alloc _) (hf.alloc _) ⟨_, _, _, rfl⟩ h
theorem read_panic {tmps : Array Value} {R : Ending → World → Prop} {W : World} {bl bf : Nat} {v : Value} {b : Bool} (h2 : tmps[2]? = some (.pointer (some ⟨bl, 0, none⟩))) (h3 : tmps[3]? = some (.pointer (some ⟨bf, 0, none⟩)))
    (hl : Boxed W bl 26 v) (hf : Boxed W bf 4 (.bool b)) (hne : bf ≠ bl) (h : R (.returned (.tuple #[.slice none 0 0, .bool false])) (((W.alloc (.cells #[] 67)).setCell ⟨bl, 0, none⟩ (.slice none 0 0)).setCell ⟨bf, 0, none⟩ (.bool false))) :
    bodyPostD Try.prog Try.f27 R (.panic [{ v := .iface 67 (.agg #[]), recovered := false }]) { tmps := tmps, defers := [{ target := .fn (.func 41) #[.pointer (some ⟨bl, 0, none⟩), .pointer (some ⟨bf, 0, none⟩)], args := #[] }] } W := by
  show Leaves _ _ _ _ _ _ _
  refine leaves_cons (f := 41) (args := #[.pointer (some ⟨bl, 0, none⟩), .pointer (some ⟨bf, 0, none⟩)]) (by simp) (by simp [go_sem]) ?_
  refine (catch_cut bl bf v b [] _ hl hf hne).mono ?_
  rintro e u' w'' ⟨rfl, rfl, rfl⟩
  show Leaves _ _ _ _ [] .returning _
  exact read_leaves h2 h3 (boxed_far ((hl.alloc _).set _) (Ne.symm hne) _) ((boxed_far (hf.alloc _) hne _).set _) ⟨_, _, _, rfl⟩ h
/-- What is behind a cut of the front. -/
theorem rd_step {h n : Int} {r : List Int} {acc : List OptR} (h1 : n.toNat ≤ r.length) (h2 : h ≠ 0) : rdL (h :: n :: r) acc = rdL (r.drop n.toNat) (acc ++ [⟨h, r.take n.toNat⟩]) := by
  rw [rdL, if_pos ⟨h1, h2⟩]
theorem rd_stop {h n : Int} {r : List Int} {acc : List OptR} (h1 : ¬ (n.toNat ≤ r.length ∧ h ≠ 0)) : rdL (h :: n :: r) acc = none := by
  rw [rdL, if_neg h1]
theorem rd_lone {h : Int} {acc : List OptR} : rdL [h] acc = none := by rw [rdL]

theorem leaves_congr {P : Program} {fn : Func} {t1 t2 : Array Value} {R : Ending → World → Prop} (h : results fn t1 = results fn t2) : ∀ ds u w, Leaves P fn t1 R ds u w → Leaves P fn t2 R ds u w
  | [], .returning, w, hh => by
    obtain ⟨v, h1, h2⟩ := hh
    exact ⟨v, h ▸ h1, h2⟩
  | [], .panicking _, _, hh => hh
  | [], .run, _, hh => hh
  | d :: ds, u, w, hh => by
    obtain ⟨h1, fv, cap, f, args, h2, h3, h4⟩ := hh
    refine ⟨h1, fv, cap, f, args, h2, h3, h4.mono fun e u' w' h5 => ?_⟩
    cases e with
    | returned _ => exact leaves_congr h ds _ _ h5
    | panicked _ => exact leaves_congr h ds _ _ h5
    | outgrown => exact h5
theorem put_quiet {R : Ending → World → Prop} {v : Value} (N : Nat) (h2 : N ≠ 2) (h3 : N ≠ 3) : ∀ c a w, bodyPostD Try.prog Try.f27 R (.panic c) (a.put (some N) v) w → bodyPostD Try.prog Try.f27 R (.panic c) a w := by
  intro c a w h
  refine leaves_congr ?_ _ _ _ h
  simp [results, Try.results27, Act.put, h2, h3]
theorem rinfo : (Try.prog.info? 48).map (fun i => (i.zero, i.size, i.bytes)) = some (some (.agg #[.int .i64 0, .slice none 0 0]), 2, 32) := by kernel_rfl
def lenOfV : Value → Nat | .slice _ n _ => n | _ => 0
set_option maxHeartbeats 4000000 in
set_option maxRecDepth 100000 in
theorem read_calls (A : Option Addr) (c : Nat) (l : List Int) (w : World) (hC : (Kd.int .u8).C w A l.length l) (hc : l.length ≤ c) (hbytes : ∀ x ∈ l, 0 ≤ x ∧ x ≤ 255) (hlen : l.length < 1099511627776) :
    Calls Try.prog 27 #[.slice A l.length c] w fun e w' => ∃ v, e = .returned (.tuple #[v, .bool (rdRes l).2]) ∧ Kd.S k48 48 w' w.heap.size (fun _ => True) v (rdRes l).1 ∧ Below w.heap.size w w' := by
  have hmf : ∀ (fn : Fn) (first cap : Array Value) (w : World), (Instr.makeFunc fn first cap).run Try.prog w = .ok (.func fn first cap) w := fun _ _ _ _ => rfl
  have HC := Lib.hid hC
  have HBY := Lib.hid hbytes
  clear hC hbytes
  go_enter_defers Try.func27, Try.ntmps27
  go_upto_region 1 with fail
  obtain ⟨bl, hbl⟩ : ∃ b, w.heap.size = b := ⟨_, rfl⟩
  obtain ⟨bf, hbf⟩ : ∃ b, bl + 1 = b := ⟨_, rfl⟩
  obtain ⟨w1, hw1⟩ : ∃ W, (w.alloc (.cells #[.slice none 0 0] 26)).alloc (.cells #[.bool false] 4) = W := ⟨_, rfl⟩
  have HL1 : Hid (Boxed w1 bl 26 (.slice none 0 0)) := by show Boxed _ _ _ _; rw [← hw1, ← hbl]; exact (Boxed.new _ _ _).alloc _
  have HF1 : Hid (Boxed w1 bf 4 (.bool false)) := by
    show Boxed _ _ _ _
    have := Boxed.new (w.alloc (.cells #[.slice none 0 0] 26)) 4 (.bool false)
    rw [← hw1, ← hbf, ← hbl]
    simpa using this
  have HB1 : Hid (Below w.heap.size w w1) := by show Below _ _ _; rw [← hw1]; exact below_alloc (below_alloc (Below.refl _ _) _) _
  have HBL : Hid (w.heap.size ≤ bl) := Nat.le_of_eq hbl
  have HBF : Hid (bl < bf) := by show _ < _; omega
  have HS1 : Hid (bf < w1.heap.size) := by show _ < _; rw [← hw1, ← hbf, ← hbl]; simp
  rw [hbl, hbf, hw1]
  clear hbl hbf hw1
  go_wp2_with fail
  have CK := Lib.hid catch_cut
  have CN := Lib.hid catch_none
  go_loopw [0] (fun at_ wr => ∃ (l' : List Int) (acc : List OptR) (v : Value) (A' : Option Addr) (c' : Nat), at_ = .slice A' l'.length c' ∧ l'.length ≤ c' ∧ l'.length ≤ l.length ∧ acc.length + l'.length ≤ l.length ∧ Hid (∀ x ∈ l', 0 ≤ x ∧ x ≤ 255) ∧ Hid (rdL l' acc = rdL l []) ∧ Hid ((Kd.int .u8).C w A' l'.length l') ∧
      Hid (Kd.S k48 48 wr (bf + 1) (fun _ => True) v acc) ∧ Hid (Boxed wr bl 26 v) ∧ Hid (Boxed wr bf 4 (.bool false)) ∧ Hid (Below w.heap.size w wr)) (fun at_ _ => lenOfV at_)
  case atStart => exact ⟨l, [], _, A, c, rfl, hc, Nat.le_refl _, by simp, HBY, by rfl, HC, Lib.hid (Kd.S_nil _ _ _ _ _), HL1, HF1, HB1⟩
  case round =>
    obtain ⟨l', acc, v, A', c', rfl, hc', hl1, hl2, HBY', HP, HC', HV, HL, HF, HB⟩ := hrel
    clear HC HL1 HF1 HB1
    obtain ⟨Av, cv, rfl⟩ := Kd.S_slice HV.out
    have y1 := HL.out.cell
    have z1 := HL.out.frozen
    have y2 := HF.out.cell
    have z2 := HF.out.frozen
    have hne : bf ≠ bl := by have := HBF.out; omega
    have y3 : ∀ u, (wr.setCell ⟨bl, 0, none⟩ u).cell? ⟨bf, 0, none⟩ = some (.bool false) := fun u => (World.cell?_setCell_other _ _ _ _ (by intro e; injection e with e; exact hne e.symm)).trans y2
    have HNE := Lib.hid hne
    clear hne
    by_cases h0 : l' = []
    · subst h0
      have hp : rdL [] acc = some acc := by unfold rdL; rfl
      have HRS := Lib.hid (rdRes_some (HP.out.symm.trans hp))
      clear hp
      go_wp2_with fail
      refine read_ret rfl rfl (boxed_far (HL.out.set _) (Ne.symm HNE.out) _) ((boxed_far HF.out HNE.out _).set _) ⟨_, by rw [HRS.out], ?_, ?_⟩
      · rw [HRS.out]
        have h1 : Kd.S k48 48 wr (bf + 1) (fun k => bf < k) (.slice Av acc.length cv) acc := Kd.S_mono (Kd.S_bound HV.out) (fun k hk => by have := hk.2.1; omega)
        have h2 := Kd.S_far (Kd.S_far h1 (p := ⟨bl, 0, none⟩) (fun k hk => by have := HBF.out; show k ≠ bl; omega) (.slice Av acc.length cv)) (p := ⟨bf, 0, none⟩) (fun k hk => by show k ≠ bf; omega) (.bool (decide (0 < acc.length)))
        exact Kd.S_mono (Kd.S_lower (Kd.S_alloc h2 _) (by have := HBL.out; have := HBF.out; omega)) (fun _ _ => trivial)
      · exact below_alloc (below_set (below_set HB.out HBL.out) (by have := HBL.out; have := HBF.out; omega)) _
    · obtain ⟨h, l2, rfl⟩ : ∃ h l2, l' = h :: l2 := by
        cases l' with
        | nil => exact absurd rfl h0
        | cons h l2 => exact ⟨h, l2, rfl⟩
      clear h0
      have p0 : (((h :: l2).length : Int) > 0) = True := eq_true (by simp only [List.length_cons]; omega)
      have p00 : ((0 : Int) < ((h :: l2).length : Int)) = True := eq_true (by simp only [List.length_cons]; omega)
      cases l2 with
      | nil =>
        have HRS := Lib.hid (rdRes_none (HP.out.symm.trans rd_lone))
        go_wp2_with fail
        refine (take_none A' c' _ 2 _ (by simp)).mono ?_
        rintro e w' ⟨rfl, rfl⟩
        go_wp2_with fail
        refine read_panic rfl rfl HL.out HF.out HNE.out ⟨_, by rw [HRS.out], by rw [HRS.out]; exact Kd.S_nil _ _ _ _ _, ?_⟩
        exact below_set (below_set (below_alloc HB.out _) HBL.out) (by have := HBL.out; have := HBF.out; omega)
      | cons n r =>
        obtain ⟨m, rfl⟩ : ∃ m : Nat, n = m := Int.eq_ofNat_of_zero_le (HBY'.out n (by simp)).1
        have hm255 : (m : Int) ≤ 255 := (HBY'.out m (by simp)).2
        have hh := HBY'.out h (by simp)
        obtain ⟨ad, rfl, x0⟩ := Kd.at_int HC'.out 0 (by omega) (by simp only [List.length_cons]; omega)
        obtain ⟨ad2, e2, x1⟩ := Kd.at_int HC'.out 1 (by omega) (by simp only [List.length_cons]; omega)
        cases e2
        have x0w : w.cell? ad = some (.int .u8 h) := x0
        replace x0 := (HB.out.cell (World.block_lt_of_cell? w _ x0)).trans x0
        replace x1 := (HB.out.cell (World.block_lt_of_cell? w _ x1)).trans x1
        have HC2 := Kd.C_drop (c := c') (m := 2) HC'.out (by simp) hc'
        rw [show (Kd.int .u8).sz = 1 from rfl, Nat.mul_one] at HC2
        change (Kd.int .u8).C w _ r.length r at HC2
        obtain ⟨nn, hnn⟩ : ∃ nn, nn = (h :: (m : Int) :: r).length := ⟨_, rfl⟩
        have hnr : nn = r.length + 2 := hnn
        obtain ⟨B2, hB2⟩ : ∃ B, B = (if c' = 2 then some ad else (some ad).map (·.add 2)) := ⟨_, rfl⟩
        obtain ⟨c2, hc2⟩ : ∃ c2, c2 = c' - 2 := ⟨_, rfl⟩
        rw [← hB2] at HC2
        rw [← hnn] at hc' hl1 hl2 p0 p00 ⊢
        have T1 := take_some (some ad) c' nn 2 wr (by omega) hc' (by omega)
        rw [← hB2, ← hc2, show nn - 2 = r.length from by omega] at T1
        have HT1 := Lib.hid T1
        have x0'' : wr.cell? ad = some (.int .u8 h) := x0
        have x1' : wr.cell? ⟨ad.block, ad.off + 1, none⟩ = some (.int .u8 (m : Int)) := x1
        have HX := Lib.hid x0w
        have e5 : IntKind.i64.wrap (m : Int) = (m : Int) := IntWalk.i64_in _ (by omega)
        have e6 : IntKind.i64.wrap h = h := IntWalk.i64_in _ (by omega)
        have HCR := Lib.hid HC2
        have hrc : r.length ≤ c2 := by omega
        have HNR := Lib.hid hnr
        have hrl : r.length < 1099511627776 := by omega
        have p1 : (0 < nn) = True := eq_true (by omega)
        clear x0w x0 x1 HC' T1 HC2 hB2 hc2 hnn hnr
        by_cases hmr : m ≤ r.length
        · have T2 := take_some B2 c2 r.length m wr.drew (by omega) hrc (by omega)
          obtain ⟨B3, hB3⟩ : ∃ B, B = (if c2 = m then B2 else B2.map (·.add m)) := ⟨_, rfl⟩
          obtain ⟨c3, hc3⟩ : ∃ c3, c3 = c2 - m := ⟨_, rfl⟩
          obtain ⟨r3, hr3⟩ : ∃ r3, r3 = r.drop m := ⟨_, rfl⟩
          obtain ⟨d3, hd3⟩ : ∃ d3, d3 = r.take m := ⟨_, rfl⟩
          have hr3l : r3.length = r.length - m := by rw [hr3, List.length_drop]
          have hd3l : d3.length = m := by rw [hd3, List.length_take]; omega
          rw [← hB3, ← hc3, ← hr3l] at T2
          have C3 := Kd.C_drop (c := c2) (m := m) HCR.out hmr hrc
          rw [show (Kd.int .u8).sz = 1 from rfl, Nat.mul_one, ← hB3, ← hr3] at C3
          have C4 := Kd.C_take (m := m) HCR.out hmr
          rw [← hd3] at C4
          have HC3 := Lib.hid C3
          have HC4 := Lib.hid C4
          have HR3 := Lib.hid hr3
          have HD3 := Lib.hid hd3
          have HR3L := Lib.hid hr3l
          have HD3L := Lib.hid hd3l
          have HT2 := Lib.hid T2
          have hc3' : r3.length ≤ c3 := by omega
          clear T2 hB3 hc3 hr3 hd3 hr3l hd3l C3 C4
          by_cases hz : h = 0
          · subst hz
            have q1 : ((0 : Int) == 0) = true := rfl
            have HRS := Lib.hid (rdRes_none (HP.out.symm.trans (rd_stop (by simp))))
            go_wp2_with fail
            refine HT1.out.mono ?_
            rintro e w' ⟨rfl, rfl⟩
            go_wp2_with fail
            refine HT2.out.mono ?_
            rintro e w' ⟨rfl, rfl⟩
            go_wp2_with fail
            refine read_ret (A := none) (n := 0) (c := 0) (b := false) rfl rfl (blk_drew (blk_drew (boxed_far (HL.out.set _) (Ne.symm HNE.out) _))) (blk_drew (blk_drew ((boxed_far HF.out HNE.out _).set _))) ⟨_, by rw [HRS.out], by rw [HRS.out]; exact Kd.S_nil _ _ _ _ _, ?_⟩
            exact below_alloc (below_drew1 (below_drew1 (below_set (below_set HB.out HBL.out) (by have := HBL.out; have := HBF.out; omega)))) _
          · have q1 : (h == 0) = false := beq_eq_false_iff_ne.2 hz
            have HP2 : Hid (rdL r3 (acc ++ [⟨h, d3⟩]) = rdL l []) := by
              show _ = _
              rw [← HP.out, rd_step (by simpa using hmr) hz, HR3.out, HD3.out, Int.toNat_natCast]
            have HCL : Hid (∀ W, Below w.heap.size w W → Calls Try.prog 31 #[.slice B2 m c2] W fun e w' => ∃ v0_ : Value, e = .returned v0_ ∧ Kd.R (Kd.int .u8) 5 w' W.heap.size (fun _ => True) v0_ d3 ∧ Below W.heap.size W w') := by
              intro W hb
              have := clone_calls B2 c2 d3 W (Kd.C_below HC4.out hb) (by have := HD3L.out; omega) (by have := HD3L.out; omega)
              rwa [HD3L.out] at this
            clear hz
            go_wp2_with fail
            refine HT1.out.mono ?_
            rintro e w' ⟨rfl, rfl⟩
            go_wp2_with fail
            refine HT2.out.mono ?_
            rintro e w' ⟨rfl, rfl⟩
            go_wp2_with fail
            obtain ⟨w3, hw3⟩ : ∃ W, wr.drew.drew = W := ⟨_, rfl⟩
            have hb3 : Below wr.heap.size wr w3 := by rw [← hw3]; exact below_drew (below_drew (Below.refl _ _))
            have HV3 := Lib.hid (Kd.S_below HV.out hb3)
            have HL3 : Hid (Boxed w3 bl 26 (.slice Av acc.length cv)) := (hb3.block bl HL.out.lt).trans HL.out
            have HF3 : Hid (Boxed w3 bf 4 (.bool false)) := (hb3.block bf HF.out.lt).trans HF.out
            have HB3 := Lib.hid (HB.out.trans (hb3.mono HB.out.size))
            rw [hw3]
            clear hw3 hb3 y1 z1 y2 z2 y3 x0'' x1' HV HL HF HB HT1 HT2
            have y1 := HL3.out.cell
            have y2 := pw_cell_below HB3.out HX.out
            refine start_ (n := 11) (S := fun w' => w'.cell? ⟨bl, 0, none⟩ = some (.slice Av acc.length cv) ∧ w'.cell? ad = some (.int .u8 h)) (ds := [10]) #[false, false, false, false, false, false, false, false, false, false, false] (by kernel_rfl) rfl rfl ⟨y1, y2⟩ (fun hHeld => ?_)
            obtain ⟨W2, hW2⟩ : ∃ W2, w3.drew = W2 := ⟨_, rfl⟩
            have hbw : Below w3.heap.size w3 W2 := by rw [← hW2]; exact below_drew (Below.refl _ _)
            rw [hW2] at hHeld ⊢
            clear hW2 y1 y2
            have HVW := Lib.hid (Kd.S_below HV3.out hbw)
            have HLW : Hid (Boxed W2 bl 26 (.slice Av acc.length cv)) := (hbw.block bl HL3.out.lt).trans HL3.out
            have HFW : Hid (Boxed W2 bf 4 (.bool false)) := (hbw.block bf HF3.out.lt).trans HF3.out
            have HBW := Lib.hid (HB3.out.trans (hbw.mono HB3.out.size))
            clear hbw HV3 HL3 HF3 HB3
            refine pure_ (i := 1) (N := some 29) (v := ?_) (a' := ?_) #[false, true, false, false, false, false, false, false, false, false, false] rfl rfl (by kernel_rfl) (put_quiet 29 (by decide) (by decide)) (Or.inl ⟨by rfl, ?_⟩) ?_ ?_
            rotate_left
            · intro w'
              go_simp
              with_reducible rfl
            rotate_left
            · simp only [Act.put, List.setIfInBounds_toArray, List.set_cons_zero, List.set_cons_succ, i64_w, i32_w]
              rfl
            refine pure_ (i := 2) (N := some 30) (v := ?_) (a' := ?_) #[false, true, true, false, false, false, false, false, false, false, false] rfl rfl (by kernel_rfl) (put_quiet 30 (by decide) (by decide)) (Or.inl ⟨by rfl, ?_⟩) ?_ ?_
            rotate_left
            · intro w'
              go_simp
              with_reducible rfl
            rotate_left
            · simp only [Act.put, List.setIfInBounds_toArray, List.set_cons_zero, List.set_cons_succ, i64_w, i32_w]
              rfl
            refine pure_ (i := 5) (N := some 33) (v := ?_) (a' := ?_) #[false, true, true, false, false, true, false, false, false, false, false] rfl rfl (by kernel_rfl) (put_quiet 33 (by decide) (by decide)) (Or.inl ⟨by rfl, ?_⟩) ?_ ?_
            rotate_left
            · intro w'
              go_simp
              with_reducible rfl
            rotate_left
            · simp only [Act.put, List.setIfInBounds_toArray, List.set_cons_zero, List.set_cons_succ, i64_w, i32_w]
              rfl
            refine take_ (i := 0) (N := some 28) (v := .slice Av acc.length cv) (a' := ?_) #[true, true, true, false, false, true, false, false, false, false, false] rfl rfl (by kernel_rfl) (put_quiet 28 (by decide) (by decide)) (Or.inl ⟨by rfl, ?_⟩) hHeld ?_ ?_
            · rintro w' ⟨s0, s1⟩
              go_simp
              try (with_reducible rfl)
            rotate_left
            · simp only [Act.put, List.setIfInBounds_toArray, List.set_cons_zero, List.set_cons_succ, i64_w, i32_w]
              rfl
            refine take_ (i := 3) (N := some 31) (v := .int .u8 h) (a' := ?_) #[true, true, true, true, false, true, false, false, false, false, false] rfl rfl (by kernel_rfl) (put_quiet 31 (by decide) (by decide)) (Or.inl ⟨by rfl, ?_⟩) hHeld ?_ ?_
            · rintro w' ⟨s0, s1⟩
              go_simp
              try (with_reducible rfl)
            rotate_left
            · simp only [Act.put, List.setIfInBounds_toArray, List.set_cons_zero, List.set_cons_succ, i64_w, i32_w]
              rfl
            refine pure_ (i := 4) (N := some 32) (v := .int .i64 h) (a' := ?_) #[true, true, true, true, true, true, false, false, false, false, false] rfl rfl (by kernel_rfl) (put_quiet 32 (by decide) (by decide)) (Or.inl ⟨by rfl, ?_⟩) ?_ ?_
            · intro w'
              go_simp
              try (with_reducible rfl)
            rotate_left
            · simp only [Act.put, List.setIfInBounds_toArray, List.set_cons_zero, List.set_cons_succ, i64_w, i32_w]
              rfl
            refine one_ (i := 6) (N := some 34) #[true, true, true, true, true, true, true, false, false, false, false] rfl rfl (by kernel_rfl) (by decide) (fun K hK => ?_)
            refine goes_ Try.func31 (by kernel_rfl) rfl #[.slice B2 m c2] (by rfl) rfl rfl (by (try simp only [List.map_toArray, List.map_cons, List.map_nil]); rfl) ?_
            refine (HCL.out _ HBW.out).mono ?_
            rintro e w6 ⟨v6, rfl, hv6, hb6⟩
            obtain ⟨A6, c6, rfl⟩ := Kd.R_slice hv6
            have HV6 := Lib.hid (Kd.S_old HVW.out hb6)
            have HR6 := Lib.hid hv6
            have HW6 := Lib.hid hb6
            clear hv6 hb6 hHeld
            refine ⟨_, rfl, ?_⟩
            refine hK.out _ _ ⟨pw_cell_below HW6.out HLW.out.cell, pw_cell_below (HBW.out.trans (HW6.out.mono HBW.out.size)) HX.out⟩ (fun hHeld => ?_)
            clear hK K
            try (refine norm_ (a' := ?_) ?_ ?_; rotate_left; focus (simp only [Act.put, List.setIfInBounds_toArray, List.set_cons_zero, List.set_cons_succ, i64_w, i32_w]; rfl))
            refine pure_ (i := 7) (N := some 35) (v := ?_) (a' := ?_) #[true, true, true, true, true, true, true, true, false, false, false] rfl rfl (by kernel_rfl) (put_quiet 35 (by decide) (by decide)) (Or.inl ⟨by rfl, ?_⟩) ?_ ?_
            rotate_left
            · intro w'
              go_simp
              with_reducible rfl
            rotate_left
            · simp only [Act.put, List.setIfInBounds_toArray, List.set_cons_zero, List.set_cons_succ, i64_w, i32_w]
              rfl
            refine one_ (i := 8) (N := some 36) #[true, true, true, true, true, true, true, true, true, false, false] rfl rfl (by kernel_rfl) (by decide) (fun K hK => ?_)
            go_simp
            clear hHeld
            refine hK.out _ _ ⟨pw_cell_below (HW6.out.trans ((below_alloc (Below.refl _ _) _).mono HW6.out.size)) HLW.out.cell, pw_cell_below (below_alloc (HBW.out.trans (HW6.out.mono HBW.out.size)) _) HX.out⟩ (fun hHeld => ?_)
            clear hK K
            try (refine norm_ (a' := ?_) ?_ ?_; rotate_left; focus (simp only [Act.put, List.setIfInBounds_toArray, List.set_cons_zero, List.set_cons_succ, i64_w, i32_w]; rfl))
            refine one_ (i := 9) (N := some 37) #[true, true, true, true, true, true, true, true, true, true, false] rfl rfl (by kernel_rfl) (by decide) (fun K hK => ?_)
            have hsz : bf + 1 ≤ W2.heap.size := HFW.out.lt
            refine Kd.S_append_step k48 (w0 := W2) (bf + 1) (by rfl) (.tmp 28) (.tmp 36) 26 48 (.agg #[.int .i64 0, .slice none 0 0]) 32 rfl Try.underlying26 rinfo rfl (by decide) (by omega) (.slice Av acc.length cv) acc (⟨h, d3⟩ : OptR) [.int .i64 h, .slice A6 d3.length c6] (fun _ => True) (fun k_ => some k_ = (.slice A6 d3.length c6 : Value).ownBlock) rfl rfl ?aP ?aQ (fun _ _ => trivial) ?aO (HW6.out.mono hsz) (Nat.le_trans hsz HW6.out.size) ?aL ?_
            case aP => exact k48_mkM _ _ _ (⟨h, d3⟩ : OptR) (Kd.R_tight rfl (Kd.R_lower HR6.out hsz))
            case aQ => exact fun k hk => ⟨trivial, fun e => by have h1 := Kd.R_base HR6.out k hk.symm; have h2 := Kd.S_lt HVW.out k e.symm; omega⟩
            case aO => exact Kd.S_mono HV6.out (fun k hk => ⟨trivial, fun e => by have h1 := Kd.R_base HR6.out k e.symm; have h2 := hk.2; omega⟩)
            case aL => omega
            intro v9 w9 ho9 hb9 _ _
            obtain ⟨A9, c9, rfl⟩ := Kd.S_slice ho9
            have HL9 : Hid (Boxed w9 bl 26 (.slice Av acc.length cv)) := (hb9.block bl (by have := HBF.out; omega)).trans HLW.out
            have HF9 : Hid (Boxed w9 bf 4 (.bool false)) := (hb9.block bf (by omega)).trans HFW.out
            have HB9 := Lib.hid (HBW.out.trans (hb9.mono (by have := HBF.out; have := HBL.out; omega)))
            have HV9 := Lib.hid ho9
            clear ho9 hb9 hsz hHeld HV6 HR6 HW6 HVW HLW HFW HBW
            refine hK.out _ _ ⟨HL9.out.cell, pw_cell_below HB9.out HX.out⟩ (fun hHeld => ?_)
            clear hK K
            refine norm_ (a' := ?_) ?_ ?_
            rotate_left
            · show Act.put _ (some 37) _ = _
              simp only [Act.put, List.setIfInBounds_toArray, List.set_cons_zero, List.set_cons_succ, i64_w, i32_w]
              rfl
            have y9 := HL9.out.cell
            have z9 := HL9.out.frozen
            refine last_ (i := 10) (N := none) #[true, true, true, true, true, true, true, true, true, true, true] rfl rfl (by kernel_rfl) (by decide) (fun K hK => ?_)
            go_simp
            refine hK.out _ _ ?_
            clear hK K y9 z9 hHeld
            try (refine norm_ (a' := ?_) ?_ ?_; rotate_left; focus (simp only [Act.put, List.setIfInBounds_toArray, List.set_cons_zero, List.set_cons_succ, i64_w, i32_w]; rfl))
            refine done_ (by kernel_rfl) ?_
            have HV9' := HV9.out
            rw [show (acc ++ [(⟨h, d3⟩ : OptR)]).length = acc.length + 1 from by simp] at HV9'
            obtain ⟨v9, hv9⟩ : ∃ v9, (Value.slice A9 (acc.length + 1) c9) = v9 := ⟨_, rfl⟩
            rw [hv9] at HV9' ⊢
            clear hv9 HV9
            have HV9 := Lib.hid HV9'
            clear HV9'
            have HL10 : Hid (Boxed (w9.setCell ⟨bl, 0, none⟩ v9) bl 26 v9) := HL9.out.set v9
            have HF10 : Hid (Boxed (w9.setCell ⟨bl, 0, none⟩ v9) bf 4 (.bool false)) := boxed_far HF9.out HNE.out v9
            have HB10 := Lib.hid (below_set (v := v9) (j := 0) HB9.out HBL.out)
            have HV10 : Hid (Kd.S k48 48 (w9.setCell ⟨bl, 0, none⟩ v9) (bf + 1) (fun _ => True) v9 (acc ++ [⟨h, d3⟩])) :=
              Kd.S_mono (Kd.S_far (Kd.S_mono (ok' := fun k => bf < k) (Kd.S_bound HV9.out) (fun k hk => by have := hk.2.1; omega)) (p := ⟨bl, 0, none⟩) (fun k hk => by have := HBF.out; show k ≠ bl; omega) v9) (fun _ _ => trivial)
            have HBY3 : Hid (∀ x ∈ r3, 0 ≤ x ∧ x ≤ 255) := fun x hx => HBY'.out x (by rw [HR3.out] at hx; exact List.mem_cons_of_mem _ (List.mem_cons_of_mem _ (List.mem_of_mem_drop hx)))
            go_roundw
            case rel =>
              have h1 := HR3L.out
              have h2 := HNR.out
              first
                | exact ⟨r3, acc ++ [⟨h, d3⟩], v9, B3, c3, rfl, hc3', by omega, by simp only [List.length_append, List.length_singleton]; omega, HBY3, HP2, HC3, HV10, HL10, HF10, HB10⟩
                | ((repeat apply Exists.intro); exact ⟨⟨r3, acc ++ [⟨h, d3⟩], v9, B3, c3, rfl, hc3', by omega, by simp only [List.length_append, List.length_singleton]; omega, HBY3, HP2, HC3, HV10, HL10, HF10, HB10⟩, rfl⟩)
            case measure =>
              have h1 := HR3L.out
              have h2 := HNR.out
              simp [lenOfV]; omega
        · have HRS := Lib.hid (rdRes_none (HP.out.symm.trans (rd_stop (by simp; omega))))
          go_wp2_with fail
          refine HT1.out.mono ?_
          rintro e w' ⟨rfl, rfl⟩
          go_wp2_with fail
          refine (take_none B2 c2 r.length m _ (by omega)).mono ?_
          rintro e w' ⟨rfl, rfl⟩
          go_wp2_with fail
          refine read_panic rfl rfl (W := wr.drew) (blk_drew HL.out) (blk_drew HF.out) HNE.out ⟨_, by rw [HRS.out], by rw [HRS.out]; exact Kd.S_nil _ _ _ _ _, ?_⟩
          exact below_set (below_set (below_alloc (below_drew1 HB.out) _) HBL.out) (by have := HBL.out; have := HBF.out; omega)

end Go.Proofs.Ytnkajghemggaaaa
