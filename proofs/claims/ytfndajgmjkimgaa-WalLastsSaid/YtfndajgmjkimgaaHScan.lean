/-
  frame.Scan hands back the records of the frames that bytes begin with, and how many bytes these have. Condition: bytes are bytes, fewer than 2^40 of them.
-/
import Derived.Lib.Hide
import Derived.Deep.DeepCutAuto
import Derived.Deep.CutBlock
import Derived.Laws.BitsLemmas
import Derived.Test.YtfndajgmjkimgaaHClone
import Derived.Test.YtfndajgmjkimgaaRfK
import Derived.Shelf.Abstract
namespace Go.Proofs.Ytfndajgmjkimgaa
open Go.RowKit Go.Shelf Go.Proofs.YtfndajgmjkimgaaW.PrintWords Go.Proofs.YtfndajgmjkimgaaW.PrintLast Go.Proofs.YtfndajgmjkimgaaW.PrintMore Go.Proofs.Ytfndajgmjkimgaa.Pr
set_option linter.unusedVariables false
set_option linter.unusedSimpArgs false

attribute [local go_sem] Oper.semAt_some

/-! ### what it computes -/
def frNum (b : List Int) (a : Nat) : Int := b.getD a 0 * 256 + b.getD (a + 1) 0
def frOk (b : List Int) (a : Nat) : Prop := a + 2 < b.length ∧ 1 ≤ frNum b a ∧ frNum b a ≤ 1000 ∧ (a : Int) + 3 + frNum b a ≤ b.length ∧ b.getD (a + 2 + (frNum b a).toNat) 0 = 90
instance (b : List Int) (a : Nat) : Decidable (frOk b a) := by unfold frOk; infer_instance
def frNext (b : List Int) (a : Nat) : Nat := a + 3 + (frNum b a).toNat
def frRec (b : List Int) (a : Nat) : List Int := (b.take (a + 2 + (frNum b a).toNat)).drop (a + 2)
def frGo (b : List Int) : Nat → Nat → List (Nat × List Int)
  | 0, _ => []
  | k + 1, a => if frOk b a then (frNext b a, frRec b a) :: frGo b k (frNext b a) else []

theorem wraps_i64 (n : Int) (h₀ : 0 ≤ n) (h₁ : n < 2 ^ 31) : IntKind.i64.wrap n = n := by rw [IntKind.wrap_i64]; omega
theorem or_join8 {x y : Int} (h0 : 0 ≤ x) (h1 : x ≤ 255) (h2 : 0 ≤ y) (h3 : y ≤ 255) : bits .or .i64 (x * 256) y = x * 256 + y :=
  bits_join .i64 31 (by decide) wraps_i64 8 (x * 256) y (by omega) (by omega) (by omega) h2 (by omega) (by omega)

/-- 's[a:b]': its run, and what it reads. -/
theorem mid_kd {α : Type} {P : Program} (k : Kd α) (t e : TypeId) {i : TypeInfo} (ht : P.underlying t = some (.slice e)) (hi : P.info? e = some i) (hsz : i.size = k.sz) (A : Option Addr) (c : Nat) (xs : List α) (a b : Int) (h0 : 0 ≤ a) (h1 : a ≤ b) (hm : b ≤ xs.length) (hc : xs.length ≤ c) (w : World) (h : k.C w A xs.length xs) :
    ∃ (A' : Option Addr) (c' : Nat) (ys : List α), Hid (ys = (xs.take b.toNat).drop a.toNat) ∧ (∀ W : World, (Instr.slice t (.slice A xs.length c) (some (.int .i64 a)) (some (.int .i64 b)) none).run P W = .ok (.slice A' ys.length c') W) ∧ k.C w A' ys.length ys ∧ ys.length ≤ c' := by
  have hl : ((xs.take b.toNat).drop a.toNat).length = b.toNat - a.toNat := by rw [List.length_drop, List.length_take]; omega
  refine ⟨_, c - a.toNat, _, rfl, ?_, Kd.C_mid h (lo := a.toNat) (hi := b.toNat) (by omega) (by omega) hc, by rw [hl]; omega⟩
  intro W
  rw [hl]
  exact cut_mid t e .i64 .i64 ht hi k.sz hsz A xs.length c a b h0 h1 hm hc W

theorem frStop' {b : List Int} {J : List (Nat × List Int) → World → Prop} {pre : List (Nat × List Int)} {k a : Nat} {L : List (Nat × List Int)} {wr : World} (hJ : J pre wr)
    (h : pre ++ frGo b k a = L) (hn : ¬ frOk b a) : J L wr := by
  cases k with
  | zero => simp only [frGo, List.append_nil] at h; subst h; exact hJ
  | succ k => simp only [frGo, if_neg hn, List.append_nil] at h; subst h; exact hJ
theorem frStop {b : List Int} {J : List (Nat × List Int) → World → Prop} {pre : List (Nat × List Int)} {k a : Nat} {L : List (Nat × List Int)} {wr : World} (hJ : J pre wr) (hJg : ∀ pre W W', J pre W → Below W.heap.size W W' → J pre W')
    (h : pre ++ frGo b k a = L) (hn : ¬ frOk b a) (m : Nat) : J L (wr.drewN m) :=
  hJg _ _ _ (frStop' hJ h hn) (pw_below_drewN (Below.refl _ _) m)

theorem rd_byte {b : List Int} (h : ∀ x ∈ b, 0 ≤ x ∧ x ≤ 255) (i : Int) : 0 ≤ rd b i ∧ rd b i ≤ 255 := by
  unfold rd
  rw [List.getD_eq_getElem?_getD]
  cases e : b[i.toNat]? with
  | none => exact ⟨Int.le_refl 0, by decide⟩
  | some x => exact h x (List.mem_of_getElem? e)

set_option maxHeartbeats 4000000 in
set_option maxRecDepth 100000 in
theorem frames1_calls (b : List Int) (A0 : Option Addr) (c : Nat) (w0 : World) (hb : Kd.C (Kd.int .u8) w0 A0 b.length b) (hc : b.length ≤ c) (hbytes : ∀ x ∈ b, 0 ≤ x ∧ x ≤ 255) (hlen : b.length < 1099511627776) (n l Bn : Nat) (J : List (Nat × List Int) → World → Prop)
    (hJb : ∀ pre W, J pre W → Below w0.heap.size w0 W ∧ Boxed W Bn 33 (.slice A0 b.length c))
    (hJg : ∀ pre W W', J pre W → Below W.heap.size W W' → J pre W')
    (hY : ∀ pre W0 W (a : Nat) v, J pre W0 → pre.length < b.length → Below W0.heap.size W0 W → frOk b a → Kd.R (Kd.int .u8) 5 W W0.heap.size (fun _ => True) v (frRec b a) →
      YieldAt Fence.wide n Try.prog l #[.int .i64 (frNext b a), v] W fun e W' => e = .returned (.bool true) ∧ J (pre ++ [(frNext b a, frRec b a)]) W')
    (W : World) (h0 : J [] W) :
    Calls Try.prog 46 #[.func (.yield l) #[] #[], .pointer (some ⟨Bn, 0, none⟩)] W fun e W' => (∃ v, e = .returned v) ∧ J (frGo b b.length 0) W' := by
  go_enter Try.func46, Try.ntmps46
  go_wp2
  go_loopw [3, 4, 5] (fun at_ _ _ wr => ∃ (k a : Nat) (pre : List (Nat × List Int)), at_ = .int .i64 a ∧ a ≤ b.length ∧ b.length ≤ a + k ∧ J pre wr ∧ pre.length ≤ a ∧ Hid (pre ++ frGo b k a = frGo b b.length 0)) (fun at_ _ _ _ => b.length - (intOf at_).toNat)
  case atStart => exact ⟨b.length, 0, [], rfl, by omega, by omega, h0, by simp, by rfl⟩
  case round =>
    obtain ⟨k, a, pre, rfl, hal, hk, hJ, hpl, HL⟩ := hrel
    obtain ⟨hB, hx⟩ := hJb _ _ hJ
    have hbc := hx.cell
    by_cases h2 : a + 2 < b.length
    · have q1 := Kd.at_int hb (a : Int) (by omega) (by omega)
      obtain ⟨ad, rfl, x1⟩ := q1
      replace x1 := (hB.cell (World.block_lt_of_cell? w0 _ x1)).trans x1
      rw [Int.toNat_natCast] at x1
      obtain ⟨j1, hj1⟩ : ∃ j : Int, (a : Int) + 1 = j := ⟨_, rfl⟩
      have q2 := Kd.at_int hb j1 (by omega) (by omega)
      obtain ⟨ad2, e2, x2⟩ := q2
      cases e2
      replace x2 := (hB.cell (World.block_lt_of_cell? w0 _ x2)).trans x2
      obtain ⟨hi, ehi⟩ : ∃ z, rd b (a : Int) = z := ⟨_, rfl⟩
      obtain ⟨lo, elo⟩ : ∃ z, rd b j1 = z := ⟨_, rfl⟩
      rw [ehi] at x1
      rw [elo] at x2
      have bhi : 0 ≤ hi ∧ hi ≤ 255 := by rw [← ehi]; exact rd_byte hbytes _
      have blo : 0 ≤ lo ∧ lo ≤ 255 := by rw [← elo]; exact rd_byte hbytes _
      obtain ⟨bhi1, bhi2⟩ := bhi
      obtain ⟨blo1, blo2⟩ := blo
      have EHI := Lib.hid ehi
      have ELO := Lib.hid elo
      clear ehi elo
      have e3 : IntKind.i64.wrap ((a : Int) + 1) = j1 := (IntWalk.i64_in _ (by omega)).trans hj1
      have p1 : (0 ≤ (a : Int)) = True := eq_true (by omega)
      have p2 : ((a : Int) < (b.length : Int)) = True := eq_true (by omega)
      have p3 : (0 ≤ j1) = True := eq_true (by omega)
      have p4 : (j1 < (b.length : Int)) = True := eq_true (by omega)
      have e4 : IntKind.i64.wrap hi = hi := IntWalk.i64_in _ (by omega)
      have e5 : IntKind.i64.wrap lo = lo := IntWalk.i64_in _ (by omega)
      have e6 : IntKind.i64.wrap (hi * 256) = hi * 256 := IntWalk.i64_in _ (by omega)
      obtain ⟨m, hm⟩ : ∃ m : Int, hi * 256 + lo = m := ⟨_, rfl⟩
      have e7 : bits .or .i64 (hi * 256) lo = m := (or_join8 bhi1 bhi2 blo1 blo2).trans hm
      have bm1 : 0 ≤ m := by omega
      have bm2 : m ≤ 65535 := by omega
      have HM : Hid (frNum b a = m) := by
        have r1 : b.getD a 0 = hi := EHI.out
        have r2 : b.getD (a + 1) 0 = lo := by have := ELO.out; rw [← hj1] at this; exact this
        show frNum b a = m
        unfold frNum; rw [r1, r2]; exact hm
      clear hm hj1
      by_cases t1 : m < 1
      · have f1 : decide (m < 1) = true := decide_eq_true t1
        have HN : Hid (¬ frOk b a) := fun h => by have h1 := h.2.1; rw [HM.out] at h1; omega
        clear t1
        go_wp2
        go_quiet (fail)
        go_wp2
        refine bodyPost_ret (results_none rfl _ _ _) rfl ⟨⟨_, rfl⟩, ?_⟩
        exact frStop hJ hJg HL.out HN.out _
      · have f1 : decide (m < 1) = false := decide_eq_false t1
        by_cases t2 : 1000 < m
        · have f2 : decide (1000 < m) = true := decide_eq_true t2
          have HN : Hid (¬ frOk b a) := fun h => by have h1 := h.2.2.1; rw [HM.out] at h1; omega
          clear t1 t2
          go_wp2
          go_quiet (fail)
          go_wp2
          refine bodyPost_ret (results_none rfl _ _ _) rfl ⟨⟨_, rfl⟩, ?_⟩
          exact frStop hJ hJg HL.out HN.out _
        · have f2 : decide (1000 < m) = false := decide_eq_false t2
          by_cases t3 : (b.length : Int) < (a : Int) + 2 + m + 1
          · have f3 : decide ((b.length : Int) < (a : Int) + 2 + m + 1) = true := decide_eq_true t3
            have HN : Hid (¬ frOk b a) := fun h => by have h1 := h.2.2.2.1; rw [HM.out] at h1; omega
            clear t1 t2 t3
            go_wp2
            go_quiet (fail)
            go_wp2
            refine bodyPost_ret (results_none rfl _ _ _) rfl ⟨⟨_, rfl⟩, ?_⟩
            exact frStop hJ hJg HL.out HN.out _
          · obtain ⟨j2, hj2⟩ : ∃ j : Int, (a : Int) + 2 + m = j := ⟨_, rfl⟩
            have q3 := Kd.at_int hb j2 (by omega) (by omega)
            obtain ⟨ad3, e8, x3⟩ := q3
            cases e8
            replace x3 := (hB.cell (World.block_lt_of_cell? w0 _ x3)).trans x3
            obtain ⟨z, ez⟩ : ∃ z, rd b j2 = z := ⟨_, rfl⟩
            rw [ez] at x3
            have EZ : Hid (b.getD (a + 2 + m.toNat) 0 = z) := by
              rw [show a + 2 + m.toNat = j2.toNat from by omega]; exact ez
            clear ez
            have f3 : decide ((b.length : Int) < j2 + 1) = false := decide_eq_false (by omega)
            have p5 : (0 ≤ j2) = True := eq_true (by omega)
            have p6 : (j2 < (b.length : Int)) = True := eq_true (by omega)
            by_cases t4 : z = 90
            · subst t4
              obtain ⟨i0, hi0, hz0, hz1, hz2⟩ := info_parts info5
              obtain ⟨A', c', ys, HYS, hrun, hC, hcl⟩ := mid_kd (P := Try.prog) (Kd.int .u8) 33 5 Try.underlying33 hi0 hz1 (some ad) c b ((a : Int) + 2) j2 (by omega) (by omega) (by omega) hc w0 hb
              have HOK : frOk b a := ⟨h2, by rw [HM.out]; omega, by rw [HM.out]; omega, by rw [HM.out]; omega, by rw [HM.out]; exact EZ.out⟩
              have HNX : Hid ((frNext b a : Int) = j2 + 1) := by
                have h9 : (frNext b a : Int) = a + 3 + (frNum b a).toNat := by unfold frNext; omega
                rw [HM.out] at h9
                show (frNext b a : Int) = j2 + 1
                omega
              have HRC : Hid (frRec b a = ys) := by rw [HYS.out]; show frRec b a = _; unfold frRec; rw [HM.out, show a + 2 + m.toNat = j2.toNat from by omega, show ((a : Int) + 2).toNat = a + 2 from by omega]
              have HHOK := Lib.hid HOK
              have hyl : ys.length < 140737488355328 := by rw [HYS.out, List.length_drop, List.length_take]; omega
              clear HOK
              have HCC := fun W9 (hW9 : Below wr.heap.size wr W9) => clone_calls A' c' ys W9 (Kd.C_below hC (hB.trans (hW9.mono hB.size))) hcl hyl
              go_wp2_with fail
              go_quiet (fail)
              go_upto_region 5 with (fail)
              refine (wpIn_wide (n := n + 1)).1 ?_
              gi_wp2_with fail
              refine ⟨trivial, callsIn_wide.2 ((HCC _ (pw_below_drewN (Below.refl _ _) _)).mono ?_)⟩
              rintro e w' ⟨v, rfl, hv, hBv⟩
              have hBw : Below wr.heap.size wr w' := (pw_below_drewN (Below.refl wr.heap.size wr) nq).trans hBv
              have hYY := hY pre wr w' a v hJ (by omega) hBw HHOK.out (by rw [HRC.out]; exact hv)
              rw [HNX.out, HRC.out] at hYY
              obtain ⟨fn, tmps, assign, body, hy, hR⟩ := hYY
              clear hv hBv
              gi_wp2_with fail
              refine hR.mono ?_
              rintro e W3 ⟨rfl, hJ3⟩
              gi_wp2_with fail
              go_wp2_with fail
              have hn := HNX.out
              refine ⟨⟨k - 1, frNext b a, pre ++ [(frNext b a, ys)], by rw [hn], by omega, by omega, hJ3, by simp; omega, ?_⟩, by simp [intOf]; omega⟩
              have hL := HL.out
              obtain ⟨k', rfl⟩ : ∃ k', k = k' + 1 := ⟨k - 1, by omega⟩
              rw [frGo, if_pos HHOK.out, HRC.out] at hL
              show pre ++ [(frNext b a, ys)] ++ frGo b (k' + 1 - 1) (frNext b a) = _
              rw [Nat.add_sub_cancel, List.append_assoc]
              exact hL
            · have f4 : (z == 90) = false := beq_eq_false_iff_ne.2 t4
              have f5 : (z != 90) = true := bne_iff_ne.2 t4
              have HN : Hid (¬ frOk b a) := fun h => by have h1 := h.2.2.2.2; rw [HM.out] at h1; exact t4 (EZ.out.symm.trans h1)
              clear t1 t2 t3 t4
              go_wp2
              go_quiet (fail)
              go_wp2
              refine bodyPost_ret (results_none rfl _ _ _) rfl ⟨⟨_, rfl⟩, ?_⟩
              exact frStop hJ hJg HL.out HN.out _
    · have f1 : decide ((2 : Int) < (b.length : Int) - (a : Int)) = false := decide_eq_false (by omega)
      have HN : Hid (¬ frOk b a) := fun h => h2 h.1
      go_wp2
      go_end0
      exact ⟨⟨_, rfl⟩, frStop' hJ HL.out HN.out⟩

theorem frames_calls (A0 : Option Addr) (n c0 : Nat) (w : World) :
    Calls Try.prog 40 #[.slice A0 n c0] w fun e w' => e = .returned (.func (.func 46) #[] #[.pointer (some ⟨w.heap.size, 0, none⟩)]) ∧ w' = w.alloc (.cells #[.slice A0 n c0] 33) := by
  go_enter Try.func40, Try.ntmps40
  go_wp2
  go_ret
  exact ⟨rfl, rfl⟩

/-! ### frame.Scan -/
def frUsed (l : List (Nat × List Int)) : Int := match l.getLast? with | some x => x.1 | none => 0
def frScan (b : List Int) : List (List Int) × Int := ((frGo b b.length 0).map Prod.snd, frUsed (frGo b b.length 0))
def frame_Scan.f (l0 : List Int) : Option (List (List Int) × Int) := if l0.length < 1099511627776 ∧ ∀ x ∈ l0, 0 ≤ x ∧ x ≤ 255 then some (frScan l0) else none

/-- Between two rounds. -/
def ScanJ (w : World) (A0 : Option Addr) (n c0 D : Nat) (r : Loop) (pre : List (Nat × List Int)) (W : World) : Prop :=
  ∃ v, Boxed W w.heap.size 23 v ∧ Boxed W (w.heap.size + 1) 3 (.int .i64 (frUsed pre)) ∧ Boxed W (w.heap.size + 2) 33 (.slice A0 n c0) ∧
    Kd.S (Kd.slice 5 (Kd.int .u8)) 33 W w.heap.size (fun k => k ≠ w.heap.size + 2) v (pre.map Prod.snd) ∧ Below w.heap.size w W ∧ W.heap[D + 1]? = some (.loop r) ∧ W.heap[D]? = some (.deferred (some []))

set_option maxHeartbeats 4000000 in
set_option maxRecDepth 100000 in
theorem frame_Scan.calls (A0 : Option Addr) (c0 : Nat) (l0 : List Int) (r1 : List (List Int)) (r2 : Int) (w : World) (hr0 : Kd.C (Kd.int .u8) w A0 l0.length l0) (hc0 : l0.length ≤ c0) (h : frame_Scan.f l0 = some (r1, r2)) :
    Calls Try.prog 25 #[.slice A0 l0.length c0] w fun e w' => ∃ v0_ : Value, e = .returned (.tuple #[v0_, .int .i64 r2]) ∧ Kd.S (Kd.slice 5 (Kd.int .u8)) 33 w' w.heap.size (fun _ => True) v0_ r1 ∧ Below w.heap.size w w' := by
  unfold frame_Scan.f at h
  split at h
  case isFalse => cases h
  rename_i hcond
  obtain ⟨hlen, hbytes⟩ := hcond
  obtain ⟨rfl, rfl⟩ : (frGo l0 l0.length 0).map Prod.snd = r1 ∧ frUsed (frGo l0 l0.length 0) = r2 := by simpa [frScan] using h
  clear h
  refine (callsIn_wide (n := 3)).1 (callsIn_of_wp_marks Try.func25 rfl trivial ?_ rfl)
  simp only [Try.ntmps25, List.size_toArray, List.length_cons, List.length_nil, Nat.reduceAdd, Nat.reduceSub, Array.replicate_succ, Array.replicate_zero, List.push_toArray, List.append_toArray, List.nil_append, List.cons_append]
  gi_wp2_with (refine ⟨trivial, ?_⟩; gi_at_call 40; refine callsIn_wide.2 ((frames_calls _ _ _ _).mono ?_); rintro e w' ⟨rfl, rfl⟩)
  obtain ⟨W0, hW0⟩ : ∃ W0, (((w.alloc (Obj.cells #[Value.slice none 0 0] 23)).alloc (Obj.cells #[Value.int IntKind.i64 0] 3)).alloc (Obj.cells #[Value.slice A0 l0.length c0] 33)) = W0 := ⟨_, rfl⟩
  have hsz : W0.heap.size = w.heap.size + 3 := by rw [← hW0]; simp
  have HSZ := Lib.hid hsz
  clear hsz
  have bO : Boxed W0 w.heap.size 23 (.slice none 0 0) := by rw [← hW0]; exact ((Boxed.new _ _ _).alloc _).alloc _
  have bU : Boxed W0 (w.heap.size + 1) 3 (.int .i64 0) := by rw [← hW0]; have := (Boxed.new (w.alloc (Obj.cells #[Value.slice none 0 0] 23)) 3 (.int .i64 0)).alloc (Obj.cells #[Value.slice A0 l0.length c0] 33); rwa [World.size_alloc] at this
  have bB : Boxed W0 (w.heap.size + 2) 33 (.slice A0 l0.length c0) := by rw [← hW0]; have := Boxed.new ((w.alloc (Obj.cells #[Value.slice none 0 0] 23)).alloc (Obj.cells #[Value.int IntKind.i64 0] 3)) 33 (.slice A0 l0.length c0); rwa [World.size_alloc, World.size_alloc] at this
  have hB0 : Below w.heap.size w W0 := by rw [← hW0]; exact (((Below.refl _ w).alloc (Nat.le_refl _) _).alloc (by simp) _).alloc (by simp; omega) _
  rw [hW0]
  clear hW0
  refine rf_wide (gf := 46) (lb := #[.pointer (some ⟨w.heap.size + 1 + 1, 0, none⟩)]) rfl (enters_of Try.func46 (by kernel_rfl) rfl) ?_
  intro fn r hr
  have HRR := Lib.hid hr
  clear hr
  refine (frames1_calls l0 A0 c0 w hr0 hc0 hbytes hlen 3 (W0.heap.size + 1) (w.heap.size + 1 + 1) (ScanJ w A0 l0.length c0 W0.heap.size (r .ready none)) ?hJb ?hJg ?hY _ ?h0).mono ?post
  case hJb => rintro pre W ⟨v, bo, bu, bb, hs, hB, hl, hd⟩; exact ⟨hB, bb⟩
  case hJg =>
    rintro pre W W' ⟨v, bo, bu, bb, hs, hB, hl, hd⟩ hg
    exact ⟨v, boxed_below bo hg, boxed_below bu hg, boxed_below bb hg, Kd.S_below hs hg, below_then hB hB.size hg, below_heap hg hl, below_heap hg hd⟩
  case h0 =>
    have hg := rfStart_below W0
    exact ⟨_, boxed_below bO (hg _), boxed_below bU (hg _), boxed_below bB (hg _), Kd.S_nil _ _ _ _ _, below_then hB0 hB0.size (hg _), rfStart_loop _ _, rfStart_def _ _⟩
  case hY =>
    rintro pre Wa Wb a v hJ hpl hg hok hv
    have hJ' := hJ
    obtain ⟨u, bo, bu, bb, hs, hB, hl, hd⟩ := hJ'
    obtain ⟨Av, cv, rfl⟩ := Kd.R_slice hv
    refine yieldAt_mono (rf_round (n := 3) (fun b _ W' => b = true ∧ ScanJ w A0 l0.length c0 W0.heap.size (r .ready none) (pre ++ [(frNext l0 a, frRec l0 a)]) W') HRR.out (below_heap hg hl) rfl
      { tmps := #[.slice A0 l0.length c0, undef, .slice none 0 0, .int .i64 0, .pointer (some ⟨w.heap.size, 0, none⟩), .pointer (some ⟨w.heap.size + 1, 0, none⟩), .int .i64 (frNext l0 a), .slice Av (frRec l0 a).length cv, .slice A0 l0.length c0, .func (.func 46) #[] #[.pointer (some ⟨w.heap.size + 1 + 1, 0, none⟩)], .int .i64 (frNext l0 a), .slice Av (frRec l0 a).length cv, undef, undef, undef, undef, undef, undef, undef], defers := [] } ?asg ?bdy) ?_
    case asg =>
      intro K hK
      gi_wp2
      exact hK
    case bdy =>
      obtain ⟨Wc, hWc⟩ : ∃ Wc, Wb.putObj (W0.heap.size + 1) (.loop (r .busy none)) = Wc := ⟨_, rfl⟩
      have hlb := below_heap hg hl
      have co := boxed_put (boxed_below bo hg) (.loop (r .busy none)) hlb rfl
      have cu := boxed_put (boxed_below bu hg) (.loop (r .busy none)) hlb rfl
      have cb := boxed_put (boxed_below bb hg) (.loop (r .busy none)) hlb rfl
      have cS := S_put (Kd.S_old hs hg) (.loop (r .busy none)) hlb rfl
      have cR := R_put hv (.loop (r .busy none)) hlb rfl
      have cB := below_put (below_then hB hB.size hg) (.loop (r .busy none)) (l := W0.heap.size + 1) (by have := HSZ.out; omega)
      have cl := put_same (.loop (r .busy none)) hlb
      have cd := put_other (.loop (r .busy none)) (k := W0.heap.size) (l := W0.heap.size + 1) (by omega) (below_heap hg hd)
      rw [hWc] at co cu cb cS cR cB cl cd ⊢
      have hv0 := Kd.R_base hv
      have hu0 := Kd.S_lt hs
      have hbl := bb.lt
      clear hlb bo bu bb hs hl hd hJ hv hok hWc hB
      have x1 := co.cell
      have hpl2 : (pre.map Prod.snd).length < 1099511627776 := by rw [List.length_map]; omega
      gi_wp2_with (gi_at_builtin; refine wpListIn_of_one (by intro c hc; cases hc) (fun _ _ h => h) ?_; refine Kd.S_append (Kd.slice 5 (Kd.int .u8)) (w0 := w) w.heap.size rfl (.tmp 12) (.tmp 14) 23 33 (.slice none 0 0) 24 rfl Try.underlying23 info33 rfl (by decide) (by decide) u (pre.map Prod.snd) (frRec l0 a) [.slice Av (frRec l0 a).length cv] (fun k => k ≠ w.heap.size + 2) (fun k => some k = (Value.slice Av (frRec l0 a).length cv).ownBlock) rfl rfl ?aP ?aK ?aF ?aO ?aB ?aS ?aL ?_; (case aP => exact ⟨_, rfl, Kd.R_mono (Kd.R_tight rfl (Kd.R_lower cR (by omega))) (fun _ h => h)⟩); (case aK => intro k hk; have := hv0 k hk.symm; exact ⟨by omega, fun e => by have := hu0 k e.symm; omega⟩); (case aF => intro k hk; have := cb.lt; omega); (case aO => exact Kd.S_mono cS (fun k hk => ⟨hk.1, fun e => by have := hv0 k e.symm; omega⟩)); (case aB => exact cB); (case aS => have := cB.size; omega); (case aL => omega); intro v1 w1 ho hb hg1 hat; obtain ⟨A1, c1, rfl⟩ := Kd.S_slice ho; have do1 := co.kept hg1 (Kd.S_ne cS co (by decide)); have du1 := cu.kept hg1 (Kd.S_ne cS cu (by decide)); have db1 := cb.kept hg1 (Kd.S_away cS (fun k hk => hk.1)); have dl1 := grown_heap cS hg1 cl rfl; have dd1 := grown_heap cS hg1 cd rfl; clear co cu cb cl cd cS cR cB x1 hat hg1; have x1 := do1.cell; have x2 := do1.frozen; have x3 := du1.cell; have x4 := du1.frozen; refine wpList_back ?_)
      have ho' : Kd.S (Kd.slice 5 (Kd.int .u8)) 33 w1 w.heap.size (fun k => k ≠ w.heap.size + 2) (Value.slice A1 (pre.length + 1) c1) ((pre ++ [(frNext l0 a, frRec l0 a)]).map Prod.snd) := by
        rw [show (List.map Prod.snd pre ++ [frRec l0 a]).length = pre.length + 1 from by simp] at ho
        rw [List.map_append]; exact ho
      have eu := boxed_set_other (B' := w.heap.size) (Value.slice A1 (pre.length + 1) c1) du1 (by omega)
      have eS := Kd.S_set (Kd.S_set ho' do1 (by decide) 0 (Value.slice A1 (pre.length + 1) c1)) eu (by decide) 0 (Value.int .i64 (frNext l0 a))
      refine ⟨set_heap eu (set_heap do1 dl1 rfl) rfl, rfl, Value.slice A1 (pre.length + 1) c1, ?_, ?_, ?_, ?_, ?_, ?_, ?_⟩
      · exact boxed_put (boxed_set_other _ (do1.set _) (by omega)) _ (set_heap eu (set_heap do1 dl1 rfl) rfl) rfl
      · have hf : frUsed (pre ++ [(frNext l0 a, frRec l0 a)]) = frNext l0 a := by simp [frUsed]
        rw [hf]
        exact boxed_put (eu.set _) _ (set_heap eu (set_heap do1 dl1 rfl) rfl) rfl
      · exact boxed_put (boxed_set_other _ (boxed_set_other _ db1 (by omega)) (by omega)) _ (set_heap eu (set_heap do1 dl1 rfl) rfl) rfl
      · exact S_put eS _ (set_heap eu (set_heap do1 dl1 rfl) rfl) rfl
      · exact below_put ((hb.setCell (p := ⟨w.heap.size, 0, none⟩) (Nat.le_refl _) _).setCell (p := ⟨w.heap.size + 1, 0, none⟩) (Nat.le_succ _) _) _ (by have := HSZ.out; omega)
      · exact put_same _ (set_heap eu (set_heap do1 dl1 rfl) rfl)
      · exact put_other _ (by omega) (set_heap eu (set_heap do1 dd1 rfl) rfl)
    rintro e W' ⟨b, j, rfl, ⟨rfl, hJ2⟩, _⟩
    exact ⟨rfl, hJ2⟩
  case post =>
    rintro e W ⟨⟨v, rfl⟩, u, bo, bu, bb, hs, hB, hl, hd⟩
    refine ⟨⟨v, rfl⟩, .inl ⟨hl, ?_⟩⟩
    have co := boxed_put bo (.loop (r .exhausted none)) hl rfl
    have cu := boxed_put bu (.loop (r .exhausted none)) hl rfl
    have cS := S_put hs (.loop (r .exhausted none)) hl rfl
    have cB := below_put hB (.loop (r .exhausted none)) (l := W0.heap.size + 1) (by have := HSZ.out; omega)
    have cd := put_other (.loop (r .exhausted none)) (k := W0.heap.size) (l := W0.heap.size + 1) (by omega) hd
    obtain ⟨Wc, hWc⟩ : ∃ Wc, W.putObj (W0.heap.size + 1) (.loop (r .exhausted none)) = Wc := ⟨_, rfl⟩
    rw [hWc] at co cu cS cB cd ⊢
    clear hWc hl hd bo bu bb hs hB
    have x1 := co.cell
    have x2 := cu.cell
    gi_wp2
    refine wpIn_wide.2 ?_
    go_quiet (fail)
    gi_wp2
    have cd' : (Wc.drewN nq).heap[W0.heap.size]? = some (.deferred (some [])) := cd
    refine ⟨by simp, .inl ⟨_, _, rfl, run_takeDeferred cd', ?_⟩⟩
    refine ⟨_, results_tmp2 rfl _ _ _, _, rfl, ?_, ?_⟩
    · exact S_put (Kd.S_mono (Kd.S_drewN cS nq) (fun _ _ => trivial)) _ cd' rfl
    · exact below_put (pw_below_drewN cB nq) _ (by have := HSZ.out; omega)

end Go.Proofs.Ytfndajgmjkimgaa
