/-
  lessorref02.Put: an option put in the place of those of its code, or behind all. Conditions: no more than half a million, fewer than 2^46 bytes of data.
-/
import Derived.Test.YtmbfdmceameghaaHOpt0
namespace Go.Proofs.Ytmbfdmceameghaa
open Go.RowKit Go.Proofs.Ytmbfdmceameghaa.Pr Go.Proofs.YtmbfdmceameghaaW.PrintWords Go.Proofs.YtmbfdmceameghaaW.PrintLast Go.Proofs.YtmbfdmceameghaaW.PrintMore
attribute [local go_sem] max2_int min2_int max_two min_two max_three min_three max_four min_four
set_option linter.unusedVariables false
set_option linter.unusedSimpArgs false

/-! ### what it computes -/
def rpStep (x : OptF) (s : List OptF × Bool) (y : OptF) : List OptF × Bool := if y.f0 = x.f0 then (if s.2 = true then s else (s.1 ++ [x], true)) else (s.1 ++ [y], s.2)
def rpFold (x : OptF) (l : List OptF) : List OptF × Bool := l.foldl (rpStep x) ([], false)
theorem rpFold_succ (x : OptF) {l : List OptF} {k : Nat} (h : k < l.length) : rpFold x (l.take (k + 1)) = rpStep x (rpFold x (l.take k)) l[k] := by
  unfold rpFold
  rw [List.take_succ_eq_append_getElem h, List.foldl_append]; rfl
theorem rpFold_len (x : OptF) (l : List OptF) : (rpFold x l).1.length ≤ l.length := by
  have : ∀ (l : List OptF) (s : List OptF × Bool), (l.foldl (rpStep x) s).1.length ≤ s.1.length + l.length := by
    intro l
    induction l with
    | nil => intro s; simp
    | cons y l ih =>
      intro s
      have h1 := ih (rpStep x s y)
      have h2 : (rpStep x s y).1.length ≤ s.1.length + 1 := by
        unfold rpStep
        split
        · split <;> simp
        · simp
      simp only [List.foldl_cons, List.length_cons]
      omega
  have := this l ([], false)
  simpa [rpFold] using this
def rpPut (l : List OptF) (code : Int) (data : List Int) : List OptF := if (rpFold ⟨code, data⟩ l).2 = true then (rpFold ⟨code, data⟩ l).1 else (rpFold ⟨code, data⟩ l).1 ++ [⟨code, data⟩]
theorem rp_true (x : OptF) : ∀ (l : List OptF) (a : List OptF), l.foldl (rpStep x) (a, true) = (a ++ l.filter (fun y => !(y.f0 == x.f0)), true) := by
  intro l
  induction l with
  | nil => intro a; simp
  | cons y l ih =>
    intro a
    rw [List.foldl_cons]
    by_cases h : y.f0 = x.f0
    · rw [show rpStep x (a, true) y = (a, true) from by unfold rpStep; rw [if_pos h, if_pos rfl], ih]
      simp [h]
    · rw [show rpStep x (a, true) y = (a ++ [y], true) from by unfold rpStep; rw [if_neg h], ih]
      simp [h]
theorem rp_eq (l : List OptF) (code : Int) (data : List Int) : rpPut l code data = opPut l code data := by
  have key : ∀ (l : List OptF) (a : List OptF), (if (l.foldl (rpStep ⟨code, data⟩) (a, false)).2 = true then (l.foldl (rpStep ⟨code, data⟩) (a, false)).1 else (l.foldl (rpStep ⟨code, data⟩) (a, false)).1 ++ [⟨code, data⟩]) = a ++ opPut l code data := by
    intro l
    induction l with
    | nil => intro a; simp [opPut, ixOf]
    | cons y l ih =>
      intro a
      rw [List.foldl_cons]
      by_cases h : y.f0 = code
      · rw [show rpStep ⟨code, data⟩ (a, false) y = (a ++ [⟨code, data⟩], true) from by unfold rpStep; rw [if_pos h, if_neg (by simp)], rp_true]
        have e : ixOf (fun x : OptF => x.f0 == code) (y :: l) = 0 := by
          unfold ixOf
          rw [List.findIdx_cons]
          simp [h]
        rw [if_pos rfl]
        unfold opPut
        rw [e, if_pos (by decide)]
        simp
      · rw [show rpStep ⟨code, data⟩ (a, false) y = (a ++ [y], false) from by unfold rpStep; rw [if_neg h], ih]
        have e : opPut (y :: l) code data = y :: opPut l code data := by
          have hb : (y.f0 == code) = false := beq_eq_false_iff_ne.2 h
          unfold opPut ixOf
          rw [List.findIdx_cons]
          simp only [hb, cond_false, List.length_cons]
          by_cases hlt : l.findIdx (fun x => x.f0 == code) < l.length
          · rw [if_pos (by omega), if_pos hlt, if_pos (by omega), if_pos (by omega)]
            rw [show ((l.findIdx (fun x => x.f0 == code) + 1 : Nat) : Int).toNat = l.findIdx (fun x => x.f0 == code) + 1 from by omega, Int.toNat_natCast]
            simp
          · rw [if_neg (by omega), if_neg hlt, if_neg (by decide)]
            simp
        rw [e]
        simp
  have := key l []
  rw [List.nil_append] at this
  exact this

theorem add_succ (a : Addr) (n : Nat) : a.add (n + 1) = ⟨(a.add n).block, (a.add n).off + 1, none⟩ := by
  unfold Addr.add
  rw [if_neg (by omega)]
  split
  · rename_i h; subst h; rfl
  · rfl
theorem u8info : (Try.prog.info? 5).map (fun i => (i.zero, i.size, i.bytes)) = some (some (.int .u8 0), 1, 1) := by kernel_rfl
set_option maxHeartbeats 8000000 in
set_option maxRecDepth 100000 in
theorem rputS_calls (okl : Nat → Prop) (A : Option Addr) (c : Nat) (l : List OptF) (code : Int) (D : Option Addr) (cd : Nat) (data : List Int) (w : World) (hokl : ∀ k, okl k → k < w.heap.size) (hF : Kd.F k42 w okl A l.length l) (hc : l.length ≤ c) (hl : l.length ≤ 500000)
    (hD : (Kd.int .u8).C w D data.length data) (hcd : data.length ≤ cd) (hdl : data.length < 70368744177664) :
    Calls Try.prog 19 #[.slice A l.length c, .int .i64 code, .slice D data.length cd] w fun e w' => ∃ v, e = .returned v ∧ ON w' w.heap.size (fun k => okl k ∨ w.heap.size ≤ k) v (opPut l code data) ∧ Below w.heap.size w w' := by
  have HF := Lib.hid hF
  have HOKL := Lib.hid hokl
  have HD := Lib.hid hD
  have HC := Lib.hid hc
  have HDL := Lib.hid hdl
  have HW0 := Lib.hid (Below.refl w.heap.size w)
  clear hF hD hc hdl hokl
  go_enter Try.func19, Try.ntmps19
  go_upto_region 4 with (first
    | ((with_reducible refine gate_dst (N := 12) rfl ?_); (try (refine gate_guard (by rfl) ?_; dsimp only)); refine Kd.R_lit (Kd.int .u8) (w0 := w) w.heap.size 5 ?hg (N := 12) ?hd (xs := ([] : List Int)) (inner := []) (ok := fun _ => True) (okp := fun _ => True) ?hr ?hp (fun _ hk => hk) trivial (Below.refl _ _) (Nat.le_refl _) (by simp) ?_; (case hd => rfl); (case hg => rfl); (case hr => first | (go_simp; done) | (go_simp; rfl)); (case hp => exact (Reps.none _ _)); intro v3 w3 ho3 hb3 _ _; have HO3 := Lib.hid ho3; have HW3 := Lib.hid hb3; clear ho3 hb3)
    | ((with_reducible refine gate_builtin (b := .append) (xs := #[.tmp 12, .tmp 13]) rfl ?_); (try (refine gate_guard (by rfl) ?_; dsimp only)); at_builtin; refine Kd.R_append_rows (Kd.int .u8) (w0 := w) w.heap.size rfl (.tmp 12) (.tmp 13) 24 5 (.int .u8 0) 1 rfl Try.underlying24 u8info rfl (by decide) (by omega) v3 [] data _ _ _ (fun _ => True) (fun _ => False) rfl rfl HO3.out (Kd.C_below HD.out HW3.out) (fun _ _ h => h) (fun _ h => h.elim) (fun _ _ => trivial) HW3.out HW3.out.size (by have := HDL.out; simp; omega) ?_; intro v4 w4 ho4 hb4 _ _; rw [List.nil_append] at ho4; obtain ⟨A2, c2, rfl⟩ := Kd.R_slice ho4; have HV4 := Lib.hid (Kd.R_tight rfl ho4); have HW4 := Lib.hid hb4; clear ho4 hb4)
    | fail)
  obtain ⟨bx, hbx⟩ : ∃ b, w4.heap.size = b := ⟨_, rfl⟩
  obtain ⟨w5, hw5⟩ : ∃ W, w4.alloc (.cells #[.int .i64 code, .slice A2 data.length c2] 42) = W := ⟨_, rfl⟩
  have HBX5 : Hid (Boxed2 w5 bx code (.slice A2 data.length c2)) := by show _ = _; rw [← hw5, ← hbx]; exact blk_new _ _
  have hb5 : Below w4.heap.size w4 w5 := by rw [← hw5]; exact below_alloc (Below.refl _ _) _
  have HV5 := Lib.hid (Kd.R_below HV4.out hb5)
  have HW5 := Lib.hid (HW4.out.trans (hb5.mono HW4.out.size))
  have HG : Hid (w.heap.size ≤ bx ∧ ∀ k, (Value.slice A2 data.length c2).ownBlock = some k → k ≠ bx) := ⟨by rw [← hbx]; exact HW4.out.size, fun k hk => by have := Kd.R_lt HV4.out k hk; omega⟩
  rw [hw5, hbx]
  clear hw5 hbx hb5 HV4 HW4 HO3 HW3
  go_wp2_with fail
  go_loopw [7, 8, 10] (fun v pt i wr => ∃ (k : Nat) (ys : List OptF) (b : Bool), k ≤ l.length ∧ i = .int .i64 k ∧ pt = .bool b ∧ Hid (rpFold ⟨code, data⟩ (l.take k) = (ys, b)) ∧ Hid (Kd.N k42 42 wr w.heap.size (fun k => (okl k ∨ w.heap.size ≤ k) ∧ k ≠ bx) v ys) ∧ Hid (Boxed2 wr bx code (.slice A2 data.length c2)) ∧ Hid ((Kd.int .u8).R 5 wr w.heap.size (fun k => some k = (Value.slice A2 data.length c2).ownBlock) (.slice A2 data.length c2) data) ∧ Hid (Below w.heap.size w wr)) (fun _ _ i _ => l.length - (intOf i).toNat)
  case atStart => exact ⟨0, [], false, Nat.zero_le _, rfl, rfl, rfl, Kd.N_nil _ _ _ _ _, HBX5, HV5, HW5⟩
  case round =>
    clear HBX5 HV5 HW5
    obtain ⟨k, ys, b, hk, rfl, rfl, HP, HN, HB, HV, HW⟩ := hrel
    have HYL : Hid (ys.length ≤ k) := by
      show _ ≤ _
      have h1 := rpFold_len ⟨code, data⟩ (l.take k)
      rw [HP.out, List.length_take] at h1
      have h2 : ys.length ≤ min k l.length := h1
      omega
    have e0 : wr.cell? ⟨bx, 0, none⟩ = some (.int .i64 code) := (blk_cell HB.out 0).trans rfl
    have e1 : wr.cell? ⟨bx, 1, none⟩ = some (.slice A2 data.length c2) := (blk_cell HB.out 1).trans rfl
    have HNE : Hid (∀ v, Kd.N k42 42 wr w.heap.size (fun k => (okl k ∨ w.heap.size ≤ k) ∧ k ≠ bx) v ys → ∀ j, some j = (Value.slice A2 data.length c2).ownBlock → some j ≠ v.ownBlock) := fun v hn j hj => by
      obtain ⟨cs, hcs⟩ := Kd.R_typed HV.out j hj.symm
      exact Kd.N_ne hn hcs (by decide)
    by_cases hlt : k < l.length
    · obtain ⟨ad, cs, rfl, hcs, hK, hcc, _⟩ := Kd.F_get HF.out ⟨0, []⟩ (k : Int) (by omega) (by omega)
      rw [Int.toNat_natCast] at hK hcc
      obtain ⟨x, hx⟩ : ∃ x, x = l[k] := ⟨_, rfl⟩
      rw [show l.getD k ⟨0, []⟩ = x from by rw [List.getD_eq_getElem?_getD, List.getElem?_eq_getElem hlt, hx]; rfl] at hK
      obtain ⟨Ai, ci, rfl, _, _⟩ := k42_openF hK
      have y0 : w.cell? (ad.add (k * 2)) = some (.int .i64 x.f0) := hcc 0 _ rfl
      have y1 : w.cell? ⟨(ad.add (k * 2)).block, (ad.add (k * 2)).off + 1, none⟩ = some (.slice Ai x.f1.length ci) := by rw [← add_succ]; exact hcc 1 _ rfl
      replace y0 := (HW.out.cell (World.block_lt_of_cell? w _ y0)).trans y0
      replace y1 := (HW.out.cell (World.block_lt_of_cell? w _ y1)).trans y1
      have HK := Lib.hid hK
      have HS : Hid (rpFold ⟨code, data⟩ (l.take (k + 1)) = rpStep ⟨code, data⟩ (ys, b) x) := by show _ = _; rw [rpFold_succ _ hlt, HP.out, hx]
      have p1 : (0 ≤ (k : Int)) = True := eq_true (by omega)
      have p2 : ((k : Int) < (l.length : Int)) = True := eq_true (by omega)
      clear hK hcc hcs hx
      by_cases hcode : x.f0 = code
      · have q1 : (x.f0 == code) = true := beq_iff_eq.2 hcode
        have q2 : (x.f0 != code) = false := by rw [bne, q1]; rfl
        cases b with
        | true =>
          have HP2 : Hid (rpFold ⟨code, data⟩ (l.take (k + 1)) = (ys, true)) := by show _ = _; rw [HS.out]; unfold rpStep; rw [if_pos hcode, if_pos rfl]
          clear hcode
          go_wp2_with fail
          go_roundw
          case rel =>
            first
              | exact ⟨k + 1, ys, true, by omega, by go_num, rfl, HP2, HN, HB, HV, HW⟩
              | ((repeat apply Exists.intro); exact ⟨⟨k + 1, ys, true, by omega, by go_num, rfl, HP2, HN, HB, HV, HW⟩, rfl⟩)
          case measure => simp [intOf]; omega
        | false =>
          have HP2 : Hid (rpFold ⟨code, data⟩ (l.take (k + 1)) = (ys ++ [⟨code, data⟩], true)) := by show _ = _; rw [HS.out]; unfold rpStep; rw [if_pos hcode, if_neg (by simp)]
          clear hcode
          go_wp2_with (first
          | ((with_reducible refine gate_builtin (b := .append) (xs := #[.tmp 38, .tmp 40]) rfl ?_); (try (refine gate_guard (by rfl) ?_; dsimp only)); at_builtin; refine Kd.N_append k42 (w0 := w) w.heap.size rfl (.tmp 38) (.tmp 40) 25 42 (.agg #[.int .i64 0, .slice none 0 0]) 32 rfl Try.underlying25 oinfo rfl (by decide) (by decide) _ ys ⟨code, data⟩ [.int .i64 code, .slice A2 data.length c2] (fun k => (okl k ∨ w.heap.size ≤ k) ∧ k ≠ bx) (fun k => some k = (Value.slice A2 data.length c2).ownBlock) rfl rfl ?ap ?aok ?afr HN.out HW.out HW.out.size ?al ?_; (case ap => exact k42_mkF wr _ ⟨code, data⟩ (Kd.R_reads' HV.out).2.1 (Kd.R_F HV.out)); (case aok => exact fun j hj => ⟨⟨.inr (Kd.R_base HV.out j hj.symm), fun e => HG.out.2 j hj.symm e⟩, HNE.out _ HN.out j hj⟩); (case afr => exact fun j hj => ⟨.inr (Nat.le_trans HW.out.size hj), fun e => by have := blk_lt HB.out; omega⟩); (case al => have := HYL.out; omega); intro v7 w7 n7 b7 g7 at7; have HN7 := Lib.hid n7; have HW7 := Lib.hid b7; have HB7 : Hid (Boxed2 w7 bx code (.slice A2 data.length c2)) := blk_grown HB.out g7 (Kd.N_away HN.out (fun _ hk => hk.2)); have HV7 := Lib.hid (Kd.R_grown HV.out g7 (fun j hj => HNE.out _ HN.out j hj)); clear n7 b7 g7 at7)
          | fail)
          go_roundw
          case rel =>
            first
              | exact ⟨k + 1, ys ++ [⟨code, data⟩], true, by omega, by go_num, rfl, HP2, HN7, HB7, HV7, HW7⟩
              | ((repeat apply Exists.intro); exact ⟨⟨k + 1, ys ++ [⟨code, data⟩], true, by omega, by go_num, rfl, HP2, HN7, HB7, HV7, HW7⟩, rfl⟩)
          case measure => simp [intOf]; omega
      · have q1 : (x.f0 == code) = false := beq_eq_false_iff_ne.2 hcode
        have q2 : (x.f0 != code) = true := by rw [bne, q1]; rfl
        have HP2 : Hid (rpFold ⟨code, data⟩ (l.take (k + 1)) = (ys ++ [x], b)) := by show _ = _; rw [HS.out]; unfold rpStep; rw [if_neg hcode]
        clear hcode
        go_wp2_with (first
          | ((with_reducible refine gate_builtin (b := .append) (xs := #[.tmp 29, .tmp 34]) rfl ?_); (try (refine gate_guard (by rfl) ?_; dsimp only)); at_builtin; refine Kd.N_append k42 (w0 := w) w.heap.size rfl (.tmp 29) (.tmp 34) 25 42 (.agg #[.int .i64 0, .slice none 0 0]) 32 rfl Try.underlying25 oinfo rfl (by decide) (by decide) _ ys x [.int .i64 x.f0, .slice Ai x.f1.length ci] (fun k => (okl k ∨ w.heap.size ≤ k) ∧ k ≠ bx) okl rfl rfl ?ap ?aok ?afr HN.out HW.out HW.out.size ?al ?_; (case ap => exact Kd.FK_below HK.out HW.out); (case aok => exact fun j hj => ⟨⟨.inl hj, fun e => by have := HG.out.1; have := HOKL.out j hj; omega⟩, fun e => by have := Kd.N_base HN.out j e.symm; have := HOKL.out j hj; omega⟩); (case afr => exact fun j hj => ⟨.inr (Nat.le_trans HW.out.size hj), fun e => by have := blk_lt HB.out; omega⟩); (case al => have := HYL.out; omega); intro v7 w7 n7 b7 g7 at7; have HN7 := Lib.hid n7; have HW7 := Lib.hid b7; have HB7 : Hid (Boxed2 w7 bx code (.slice A2 data.length c2)) := blk_grown HB.out g7 (Kd.N_away HN.out (fun _ hk => hk.2)); have HV7 := Lib.hid (Kd.R_grown HV.out g7 (fun j hj => HNE.out _ HN.out j hj)); clear n7 b7 g7 at7)
          | fail)
        go_roundw
        case rel =>
          first
            | exact ⟨k + 1, ys ++ [x], b, by omega, by go_num, rfl, HP2, HN7, HB7, HV7, HW7⟩
            | ((repeat apply Exists.intro); exact ⟨⟨k + 1, ys ++ [x], b, by omega, by go_num, rfl, HP2, HN7, HB7, HV7, HW7⟩, rfl⟩)
        case measure => simp [intOf]; omega
    · obtain rfl : k = l.length := by omega
      have p2 : ((l.length : Int) < (l.length : Int)) = False := eq_false (by omega)
      have HPE : Hid (rpFold ⟨code, data⟩ l = (ys, b)) := by have := HP.out; rwa [List.take_length] at this
      cases b with
      | true =>
        have HR : Hid (opPut l code data = ys) := by show _ = _; rw [← rp_eq]; unfold rpPut; rw [HPE.out, if_pos rfl]
        go_wp2_with fail
        go_ret
        exact ⟨_, rfl, by rw [HR.out]; exact Kd.N_mono HN.out (fun _ hk => hk.1), HW.out⟩
      | false =>
        have HR : Hid (opPut l code data = ys ++ [⟨code, data⟩]) := by show _ = _; rw [← rp_eq]; unfold rpPut; rw [HPE.out, if_neg (by simp)]
        go_wp2_with (first
        | ((with_reducible refine gate_builtin (b := .append) (xs := #[.tmp 44, .tmp 46]) rfl ?_); (try (refine gate_guard (by rfl) ?_; dsimp only)); at_builtin; refine Kd.N_append k42 (w0 := w) w.heap.size rfl (.tmp 44) (.tmp 46) 25 42 (.agg #[.int .i64 0, .slice none 0 0]) 32 rfl Try.underlying25 oinfo rfl (by decide) (by decide) _ ys ⟨code, data⟩ [.int .i64 code, .slice A2 data.length c2] (fun k => (okl k ∨ w.heap.size ≤ k) ∧ k ≠ bx) (fun k => some k = (Value.slice A2 data.length c2).ownBlock) rfl rfl ?ap ?aok ?afr HN.out HW.out HW.out.size ?al ?_; (case ap => exact k42_mkF wr _ ⟨code, data⟩ (Kd.R_reads' HV.out).2.1 (Kd.R_F HV.out)); (case aok => exact fun j hj => ⟨⟨.inr (Kd.R_base HV.out j hj.symm), fun e => HG.out.2 j hj.symm e⟩, HNE.out _ HN.out j hj⟩); (case afr => exact fun j hj => ⟨.inr (Nat.le_trans HW.out.size hj), fun e => by have := blk_lt HB.out; omega⟩); (case al => have := HYL.out; omega); intro v7 w7 n7 b7 g7 at7; have HN7 := Lib.hid n7; have HW7 := Lib.hid b7; have HB7 : Hid (Boxed2 w7 bx code (.slice A2 data.length c2)) := blk_grown HB.out g7 (Kd.N_away HN.out (fun _ hk => hk.2)); have HV7 := Lib.hid (Kd.R_grown HV.out g7 (fun j hj => HNE.out _ HN.out j hj)); clear n7 b7 g7 at7)
        | fail)
        go_ret
        exact ⟨_, rfl, by rw [HR.out]; exact Kd.N_mono HN7.out (fun _ hk => hk.1), HW7.out⟩
theorem rput_calls (A : Option Addr) (c : Nat) (l : List OptF) (code : Int) (D : Option Addr) (cd : Nat) (data : List Int) (w : World) (hF : Kd.F k42 w (fun k => k < w.heap.size) A l.length l) (hc : l.length ≤ c) (hl : l.length ≤ 500000)
    (hD : (Kd.int .u8).C w D data.length data) (hcd : data.length ≤ cd) (hdl : data.length < 70368744177664) :
    Calls Try.prog 19 #[.slice A l.length c, .int .i64 code, .slice D data.length cd] w fun e w' => ∃ v, e = .returned v ∧ ON w' w.heap.size (fun _ => True) v (opPut l code data) ∧ Below w.heap.size w w' :=
  (rputS_calls _ A c l code D cd data w (fun _ h => h) hF hc hl hD hcd hdl).mono fun e w' ⟨v, h1, h2, h3⟩ => ⟨v, h1, Kd.N_mono h2 (fun _ _ => trivial), h3⟩
end Go.Proofs.Ytmbfdmceameghaa
