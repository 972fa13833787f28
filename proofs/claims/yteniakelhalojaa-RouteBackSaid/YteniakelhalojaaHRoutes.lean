/-
  route.routes: the routes of bytes, handed on one by one. Condition: bytes, fewer than 2^40.
-/
import Derived.Deep.QuietTactic
import Derived.Test.YteniakelhalojaaRfK
import Derived.Test.YteniakelhalojaaHEncode
import Derived.Test.YteniakelhalojaaHArr
import Derived.Test.YteniakelhalojaaHLastIn
namespace Go.Proofs.Yteniakelhalojaa
open Go.RowKit Go.Proofs.Yteniakelhalojaa.Pn Go.Proofs.YteniakelhalojaaW.PrintWords Go.Proofs.YteniakelhalojaaW.PrintLast Go.Proofs.YteniakelhalojaaW.PrintMore
attribute [local go_sem] max2_int min2_int max_two min_two max_three min_three max_four min_four
set_option linter.unusedVariables false
set_option linter.unusedSimpArgs false

/-! ### what is handed on -/
def rtRd (x : Int) (r : List Int) : RtE := ⟨ofR (r.take (rtOct x)), x, ofR ((r.drop (rtOct x)).take 4)⟩
def rdGo (l : List Int) (pre : List RtE) : Option (List RtE) :=
  match l with
  | [] => some pre
  | x :: r => if 32 < x ∨ r.length < rtOct x + 4 then none else if rtRight (rtRd x r) = true then rdGo (r.drop (rtOct x + 4)) (pre ++ [rtRd x r]) else none
termination_by l.length
decreasing_by simp only [List.length_cons, List.length_drop]; omega
theorem rdGo_nil {pre : List RtE} : rdGo [] pre = some pre := by rw [rdGo.eq_def]
theorem rdGo_short {x : Int} {r : List Int} {pre : List RtE} (h : 32 < x ∨ r.length < rtOct x + 4) : rdGo (x :: r) pre = none := by rw [rdGo.eq_def]; dsimp only; rw [if_pos h]
theorem rdGo_wrong {x : Int} {r : List Int} {pre : List RtE} (h1 : ¬ (32 < x ∨ r.length < rtOct x + 4)) (h2 : rtRight (rtRd x r) = false) : rdGo (x :: r) pre = none := by rw [rdGo.eq_def]; dsimp only; rw [if_neg h1, h2]; rfl
theorem rdGo_step {x : Int} {r : List Int} {pre : List RtE} (h1 : ¬ (32 < x ∨ r.length < rtOct x + 4)) (h2 : rtRight (rtRd x r) = true) : rdGo (x :: r) pre = rdGo (r.drop (rtOct x + 4)) (pre ++ [rtRd x r]) := by
  rw [rdGo.eq_def]; dsimp only; rw [if_neg h1, if_pos h2]
theorem oct_eqB (b : Int) (h0 : 0 ≤ b) (h1 : b ≤ 255) : route_octets.f b = some (rtOct b : Int) := by
  unfold route_octets.f rtOct
  have e1 : wrap64 (b + 7) = b + 7 := by unfold wrap64; omega
  simp only [e1]
  rw [Int.tdiv_eq_ediv_of_nonneg (by omega)]
  congr 1
  unfold wrap64; omega
theorem boxed_blw {W W' : World} {B : Nat} {t : TypeId} {v : Value} (h : Boxed W B t v) (hb : Below W.heap.size W W') : Boxed W' B t v := (hb.block B h.lt).trans h
abbrev rtV (x : RtE) : Value := .agg #[.int .u32 x.f0, .int .i64 x.f1, .int .u32 x.f2]

set_option maxHeartbeats 4000000 in
set_option maxRecDepth 100000 in
theorem routes1_calls (b : List Int) (w0 : World) (hbytes : ∀ x ∈ b, 0 ≤ x ∧ x ≤ 255) (hlen : b.length < 1099511627776) (n l Bn : Nat) (J : List RtE → World → Prop) (End : World → Prop) (hBn : w0.heap.size ≤ Bn)
    (hJb : ∀ pre W, J pre W → Below w0.heap.size w0 W)
    (hJg : ∀ pre W W', J pre W → Below W.heap.size W W' → J pre W')
    (hJs : ∀ pre W v u, J pre W → Boxed W Bn 24 v → J pre (W.setCell ⟨Bn, 0, none⟩ u))
    (hY1 : ∀ pre W x bv, J pre W → pre.length < b.length → Boxed W Bn 24 bv →
      YieldAt Fence.wide n Try.prog l #[rtV x, .bool true] W fun e W' => e = .returned (.bool true) ∧ J (pre ++ [x]) W' ∧ Boxed W' Bn 24 bv)
    (hY2 : ∀ pre W x, J pre W → rdGo b [] = none →
      YieldAt Fence.wide n Try.prog l #[rtV x, .bool false] W fun e W' => e = .returned (.bool false) ∧ End W')
    (W : World) (h0 : J [] W) (A0 : Option Addr) (c : Nat) (hC : (Kd.int .u8).C w0 A0 b.length b) (hc : b.length ≤ c) (hBx : Boxed W Bn 24 (.slice A0 b.length c)) :
    Calls Try.prog 34 #[.func (.yield l) #[] #[], .pointer (some ⟨Bn, 0, none⟩)] W fun e W' => (∃ v, e = .returned v) ∧ ((∃ pre, rdGo b [] = some pre ∧ J pre W') ∨ (rdGo b [] = none ∧ End W')) := by
  have hu32 := Try.underlying32
  have HC := Lib.hid hC
  have HBY := Lib.hid hbytes
  have HY1 := Lib.hid hY1
  have HY2 := Lib.hid hY2
  have HJB := Lib.hid hJb
  have HJG := Lib.hid hJg
  have HJS := Lib.hid hJs
  have HJ0 := Lib.hid h0
  have HBX0 := Lib.hid hBx
  clear hC hbytes hY1 hY2 hJb hJg hJs h0 hBx
  go_enter Try.func34, Try.ntmps34
  go_wp2_with fail
  go_loopg [] (b.length) (fun kq wr => ∃ (l' : List Int) (A' : Option Addr) (c' : Nat) (pre : List RtE), Hid (l'.length = kq) ∧ Hid (l'.length ≤ c') ∧ Hid (l'.length + pre.length ≤ b.length) ∧ Hid (∀ x ∈ l', 0 ≤ x ∧ x ≤ 255) ∧ Hid ((Kd.int .u8).C w0 A' l'.length l') ∧
      Hid (Boxed wr Bn 24 (.slice A' l'.length c')) ∧ Hid (J pre wr) ∧ Hid (rdGo l' pre = rdGo b []))
  case atStart => exact ⟨b, A0, c, [], rfl, hc, Lib.hid (by simp), HBY, HC, HBX0, HJ0, rfl⟩
  case round =>
    obtain ⟨l', A', c', pre, HK, HCL, HLP, HBY', HC', HBX, HJ, HP⟩ := hrel
    clear HC HBX0 HJ0
    have y1 := HBX.out.cell
    have z1 := HBX.out.frozen
    cases l' with
    | nil =>
      have HR := Lib.hid (HP.out.symm.trans rdGo_nil)
      go_wp2_with fail
      go_end0
      exact ⟨⟨_, rfl⟩, Or.inl ⟨pre, HR.out, HJ.out⟩⟩
    | cons x r =>
      have hx := HBY'.out x (by simp)
      obtain ⟨ad, rfl, x0⟩ := Kd.at_int HC'.out 0 (by omega) (by simp only [List.length_cons]; omega)
      have x0w : w0.cell? ad = some (.int .u8 x) := x0
      have HX0 := Lib.hid x0w
      have x0' := ((HJB.out _ _ HJ.out).cell (World.block_lt_of_cell? w0 _ x0w)).trans x0w
      obtain ⟨i0, hi0, _, hsz, _⟩ := info_parts info5
      obtain ⟨nn, hnn⟩ : ∃ nn, nn = (x :: r).length := ⟨_, rfl⟩
      have hn2 : nn = r.length + 1 := hnn
      have HN2 := Lib.hid hn2
      have hk := HK.out
      rw [← hnn] at hk y1
      have HBX1 : Hid (Boxed wr Bn 24 (.slice (some ad) nn c')) := by show Boxed _ _ _ _; rw [hnn]; exact HBX.out
      have p0 : ((nn : Int) > 0) = True := eq_true (by omega)
      have p1 : (0 < nn) = True := eq_true (by omega)
      have e6 : IntKind.i64.wrap x = x := IntWalk.i64_in _ (by omega)
      have HXB := Lib.hid hx
      clear x0 x0w hnn hn2 hk hx
      go_upto_region 2 with fail
      obtain ⟨gx, hgx⟩ : ∃ g, wr.heap.size = g := ⟨_, rfl⟩
      obtain ⟨W1, hW1⟩ : ∃ W, wr.alloc (.cells #[.int .u32 0, .int .i64 x, .int .u32 0] 32) = W := ⟨_, rfl⟩
      have BK1 : Hid (W1.heap[gx]? = some (.cells #[.int .u32 0, .int .i64 x, .int .u32 0] 32 (0, 0))) := by show _ = _; rw [← hW1, ← hgx]; exact blk_new _ _
      have HGX : Hid (wr.heap.size ≤ gx) := Lib.hid (by omega)
      have HB1 : Hid (Below wr.heap.size wr W1) := by show Below _ _ _; rw [← hW1]; exact below_alloc (Below.refl _ _) _
      rw [hgx, hW1]
      clear hW1 hgx y1 z1 x0' e6
      have u1 := (blk_cell BK1.out 1).trans rfl
      have h255 := HXB.out
      obtain ⟨on, hon⟩ : ∃ o, rtOct x = o := ⟨_, rfl⟩
      have hon40 : on ≤ 40 := by rw [← hon]; unfold rtOct; omega
      have HOC := Lib.hid (oct_eqB x h255.1 h255.2)
      rw [hon] at HOC
      obtain ⟨m1, hm1⟩ : ∃ m1 : Int, 1 + (on : Int) = m1 := ⟨_, rfl⟩
      obtain ⟨m2, hm2⟩ : ∃ m2 : Int, m1 + 4 = m2 := ⟨_, rfl⟩
      have e9 : IntKind.i64.wrap (1 + (on : Int)) = m1 := by rw [IntWalk.i64_in _ (by omega)]; exact hm1
      have e10 : IntKind.i64.wrap (m1 + 4) = m2 := by rw [IntWalk.i64_in _ (by omega)]; exact hm2
      have HON := Lib.hid hon
      have HM1 := Lib.hid hm1
      have HM2 := Lib.hid hm2
      have HON40 := Lib.hid hon40
      clear hon hm1 hm2 h255 hon40
      go_wp2_with fail
      refine (route_octets.calls x (on : Int) _ HOC.out).mono ?_
      rintro e W' ⟨rfl, m, rfl⟩
      obtain ⟨W2, hW2⟩ : ∃ W, W1.drewN m = W := ⟨_, rfl⟩
      have BK2 : Hid (W2.heap[gx]? = some (.cells #[.int .u32 0, .int .i64 x, .int .u32 0] 32 (0, 0))) := by show _ = _; rw [← hW2]; exact blk_drewN BK1.out m
      have HB2 : Hid (Below wr.heap.size wr W2) := by show Below _ _ _; rw [← hW2]; exact pw_below_drewN HB1.out m
      rw [hW2]
      clear hW2 u1 BK1 HB1
      have HBX2 := Lib.hid (boxed_blw HBX1.out HB2.out)
      have HJ2 := Lib.hid (HJG.out _ _ _ HJ.out HB2.out)
      have u1 := (blk_cell BK2.out 1).trans rfl
      have y1 := HBX2.out.cell
      have hn2 := HN2.out
      by_cases hshort : 32 < x ∨ r.length < on + 4
      · have HR : Hid (rdGo b [] = none) := Lib.hid (HP.out.symm.trans (rdGo_short (by rw [HON.out]; exact hshort)))
        by_cases h32 : 32 < x
        · have p2 : (x > 32) = True := eq_true h32
          have p3 : (32 < x) = True := eq_true h32
          clear h32 hshort hn2
          go_upto_region 4 with fail
          have u0 := (blk_cell BK2.out 0).trans rfl
          have u2 := (blk_cell BK2.out 2).trans rfl
          refine (wpIn_wide (n := n + 1)).1 ?_
          obtain ⟨fn, tmps, assign, body, hy, hR⟩ := HY2.out pre W2 ⟨0, x, 0⟩ HJ2.out HR.out
          dsimp only [rtV] at hy
          gi_wp2_with fail
          refine hR.mono ?_
          rintro e W3 ⟨rfl, hE⟩
          gi_wp2_with fail
          go_wp2_with fail
          refine bodyPost_ret (results_none rfl _ _ _) rfl ⟨⟨_, rfl⟩, Or.inr ⟨HR.out, hE⟩⟩
        · have p2 : (x > 32) = False := eq_false h32
          have p3 : (32 < x) = False := eq_false h32
          have p4 : ((nn : Int) < m2) = True := eq_true (by have := HM1.out; have := HM2.out; rcases hshort with h | h <;> omega)
          clear h32 hshort hn2
          go_upto_region 4 with fail
          have u0 := (blk_cell BK2.out 0).trans rfl
          have u2 := (blk_cell BK2.out 2).trans rfl
          refine (wpIn_wide (n := n + 1)).1 ?_
          obtain ⟨fn, tmps, assign, body, hy, hR⟩ := HY2.out pre W2 ⟨0, x, 0⟩ HJ2.out HR.out
          dsimp only [rtV] at hy
          gi_wp2_with fail
          refine hR.mono ?_
          rintro e W3 ⟨rfl, hE⟩
          gi_wp2_with fail
          go_wp2_with fail
          refine bodyPost_ret (results_none rfl _ _ _) rfl ⟨⟨_, rfl⟩, Or.inr ⟨HR.out, hE⟩⟩
      · have p2 : (x > 32) = False := eq_false (by omega)
        have p3 : (32 < x) = False := eq_false (by omega)
        have p4 : ((nn : Int) < m2) = False := eq_false (by have := HM1.out; have := HM2.out; omega)
        have HGD := Lib.hid hshort
        clear hshort hn2
        go_upto_region 6 with fail
        obtain ⟨gn, hgn⟩ : ∃ g, W2.heap.size = g := ⟨_, rfl⟩
        obtain ⟨W3, hW3⟩ : ∃ W, W2.alloc (.cells #[.int .u8 0, .int .u8 0, .int .u8 0, .int .u8 0] 43) = W := ⟨_, rfl⟩
        have BN3 : Hid (W3.heap[gn]? = some (.cells (arr4v []) 43 (0, 0))) := by show _ = _; rw [← hW3, ← hgn]; exact blk_new _ _
        have hb3 : Below W2.heap.size W2 W3 := by rw [← hW3]; exact below_alloc (Below.refl _ _) _
        have BK3 : Hid (W3.heap[gx]? = some (.cells #[.int .u32 0, .int .i64 x, .int .u32 0] 32 (0, 0))) := (hb3.block gx (blk_lt BK2.out)).trans BK2.out
        have HB3 : Hid (Below wr.heap.size wr W3) := HB2.out.trans (hb3.mono HB2.out.size)
        have HGN : Hid (wr.heap.size ≤ gn) := by have := HB2.out.size; show _ ≤ _; omega
        have HLT : Hid (gx < gn) := by have := blk_lt BK2.out; show _ < _; omega
        have HNE : Hid (gx ≠ gn) := by have := blk_lt BK2.out; show _ ≠ _; omega
        rw [hgn, hW3]
        clear hW3 hgn hb3 u1 y1 BK2 HB2 HBX2 HJ2
        have HBX3 := Lib.hid (boxed_blw HBX1.out HB3.out)
        have y1 := HBX3.out.cell
        have hgd := HGD.out
        have hm1 := HM1.out
        have hm2 := HM2.out
        have hn2 := HN2.out
        have hcl := HCL.out
        have hlp := HLP.out
        have hon40 := HON40.out
        have h32 : x ≤ 32 := by omega
        have hon4 : on ≤ 4 := by rw [← HON.out]; unfold rtOct; have := HXB.out; omega
        have hnl : (x :: r).length = nn := hn2.symm
        obtain ⟨A4, hcut4, hA4, _⟩ := print_mid_of (P := Try.prog) (Value.int .u8) 0 24 5 .i64 .i64 Try.underlying24 hi0 hsz (some ad) c' (x :: r) 1 m1 (by omega) (by omega) (by rw [hnl]; omega) hcl
        have e4 : ((x :: r).take m1.toNat).drop (1 : Int).toNat = r.take on := by rw [show m1.toNat = on + 1 from by omega]; rfl
        have l4 : (r.take on).length = on := by rw [List.length_take]; omega
        rw [e4] at hcut4 hA4
        rw [l4, hnl, show (1 : Int).toNat = 1 from rfl] at hcut4
        rw [l4] at hA4
        have HC4 := Lib.hid (fun W (hW : Below w0.heap.size w0 W) => Kd.C_of_reads (d := (0 : Int)) (h1 := fun _ => rfl) (hA4 _ (Kd.reads_of_C (Kd.C_below HC'.out hW))))
        obtain ⟨A6, hcut6, hA6, _⟩ := print_mid_of (P := Try.prog) (Value.int .u8) 0 24 5 .i64 .i64 Try.underlying24 hi0 hsz (some ad) c' (x :: r) m1 m2 (by omega) (by omega) (by rw [hnl]; omega) hcl
        have e6 : ((x :: r).take m2.toNat).drop m1.toNat = (r.drop on).take 4 := by
          rw [show m1.toNat = on + 1 from by omega, show m2.toNat = on + 4 + 1 from by omega, List.take_succ_cons, List.drop_succ_cons, List.drop_take, show on + 4 - on = 4 from by omega]
        have l6 : ((r.drop on).take 4).length = 4 := by rw [List.length_take, List.length_drop]; omega
        rw [e6] at hcut6 hA6
        rw [l6, hnl] at hcut6
        rw [l6] at hA6
        obtain ⟨c6, hc6⟩ : ∃ c6, c' - m1.toNat = c6 := ⟨_, rfl⟩
        rw [hc6] at hcut6
        obtain ⟨y4, hy4⟩ : ∃ y, r.take on = y := ⟨_, rfl⟩
        obtain ⟨y6, hy6⟩ : ∃ y, (r.drop on).take 4 = y := ⟨_, rfl⟩
        rw [hy4] at HC4
        rw [hy6] at hA6
        have hc0 := Kd.C_of_reads (d := (0 : Int)) (h1 := fun _ => rfl) (hA6 _ (Kd.reads_of_C HC'.out))
        obtain ⟨ad6, rfl, h06⟩ := cells4 A6 y6 w0 hc0
        have H06 := Lib.hid h06
        have r3 := cut_from (P := Try.prog) 24 5 .i64 Try.underlying24 hi0 1 hsz (some ad) nn c' m2 (by omega) (by omega)
        have C5 := Kd.C_drop (c := c') (m := on + 5) HC'.out (by rw [hnl]; omega) hcl
        rw [show (Kd.int .u8).sz = 1 from rfl, Nat.mul_one, show on + 5 = on + 4 + 1 from rfl, List.drop_succ_cons] at C5
        obtain ⟨s5, hs5⟩ : ∃ s5, s5 = r.drop (on + 4) := ⟨_, rfl⟩
        have hs5l : s5.length = r.length - (on + 4) := by rw [hs5, List.length_drop]
        rw [← hs5] at C5
        rw [show m2.toNat = on + 4 + 1 from by omega, Nat.mul_one, show nn - (on + 4 + 1) = s5.length from by omega] at r3
        obtain ⟨A5, hA5⟩ : ∃ A5, A5 = (if c' = on + 4 + 1 then some ad else (some ad).map (·.add (on + 4 + 1))) := ⟨_, rfl⟩
        obtain ⟨c5, hc5⟩ : ∃ c5, c5 = c' - (on + 4 + 1) := ⟨_, rfl⟩
        rw [← hA5, ← hc5] at r3
        rw [← hA5] at C5
        have HC5 := Lib.hid C5
        have HR3 := Lib.hid r3
        have HCUT6 := Lib.hid hcut6
        have HL5 : Hid (s5.length ≤ c5) := by show _ ≤ _; omega
        have HLP5 : Hid (s5.length + (pre.length + 1) ≤ b.length) := by show _ ≤ _; omega
        have HPL : Hid (pre.length < b.length) := by show _ < _; omega
        have HM5 : Hid (s5.length < gk) := by have h1 := HK.out; show _ < _; omega
        have HS5 := Lib.hid hs5
        have HY4 := Lib.hid hy4
        have HY6 := Lib.hid hy6
        have HBR : Hid (∀ y ∈ r, 0 ≤ y ∧ y ≤ 255) := fun y hy => HBY'.out y (List.mem_cons_of_mem _ hy)
        have HOF : Hid (∀ (q : List Int), (∀ y ∈ q, 0 ≤ y ∧ y ≤ 255) → ∀ j, 0 ≤ q.getD j 0 ∧ q.getD j 0 ≤ 255) := by
          intro q hq j
          rw [List.getD_eq_getElem?_getD]
          cases hj : q[j]? with
          | none => simp
          | some v => exact hq v (List.mem_of_getElem? hj)
        have HQ4 : Hid (∀ j, 0 ≤ y4.getD j 0 ∧ y4.getD j 0 ≤ 255) := HOF.out y4 (fun y hy => HBR.out y (List.mem_of_mem_take (hy4 ▸ hy)))
        have HQ6 : Hid (∀ j, 0 ≤ y6.getD j 0 ∧ y6.getD j 0 ≤ 255) := HOF.out y6 (fun y hy => HBR.out y (List.mem_of_mem_drop (List.mem_of_mem_take (hy6 ▸ hy))))
        have HO4 := Lib.hid hon4
        have hoc4 := fun W => of_calls _ _ _ _ W (HQ4.out 0) (HQ4.out 1) (HQ4.out 2) (HQ4.out 3)
        have hoc6 := fun W => of_calls _ _ _ _ W (HQ6.out 0) (HQ6.out 1) (HQ6.out 2) (HQ6.out 3)
        obtain ⟨v4, hv4⟩ : ∃ v, ofR y4 = v := ⟨_, rfl⟩
        obtain ⟨v6, hv6⟩ : ∃ v, ofR y6 = v := ⟨_, rfl⟩
        simp only [show ofR [y4.getD 0 0, y4.getD 1 0, y4.getD 2 0, y4.getD 3 0] = v4 from hv4] at hoc4
        simp only [show ofR [y6.getD 0 0, y6.getD 1 0, y6.getD 2 0, y6.getD 3 0] = v6 from hv6] at hoc6
        have HOC4 := Lib.hid hoc4
        have HOC6 := Lib.hid hoc6
        have HXR : Hid (rtRd x r = ⟨v4, x, v6⟩) := by show _ = _; unfold rtRd; rw [HON.out, hy4, hy6, hv4, hv6]
        clear hoc4 hoc6 hv4 hv6
        have hsl := arr_slice gn
        clear hgd hm1 hm2 hn2 hcl hlp hon40 h32 hon4 hnl e4 l4 e6 l6 hc6 hy4 hy6 hc0 h06 r3 C5 hs5 hs5l hA5 hc5 HOF hcut6
        go_wp2_with fail
        refine start_ (n := 5) (S := fun w' => w'.cell? ⟨Bn, 0, none⟩ = some (.slice (some ad) nn c')) (ds := [4]) #[false, false, false, false, false] (by kernel_rfl) rfl rfl y1 (fun hHeld => ?_)
        refine pure_ (i := 0) (N := some 31) (v := .slice (some ⟨gn, 0, none⟩) 4 4) (a' := ?_) #[true, false, false, false, false] rfl rfl (by kernel_rfl) (fun _ _ _ h => h) (Or.inl ⟨by rfl, ?_⟩) ?_ ?_
        · intro w'
          go_simp
          try (with_reducible rfl)
        rotate_left
        · simp only [Act.put, List.setIfInBounds_toArray, List.set_cons_zero, List.set_cons_succ, i64_w, i32_w]
          rfl
        refine pure_ (i := 2) (N := some 33) (v := .int .i64 m1) (a' := ?_) #[true, false, true, false, false] rfl rfl (by kernel_rfl) (fun _ _ _ h => h) (Or.inl ⟨by rfl, ?_⟩) ?_ ?_
        · intro w'
          go_simp
          try (with_reducible rfl)
        rotate_left
        · simp only [Act.put, List.setIfInBounds_toArray, List.set_cons_zero, List.set_cons_succ, i64_w, i32_w]
          rfl
        refine take_ (i := 1) (N := some 32) (v := .slice (some ad) nn c') (a' := ?_) #[true, true, true, false, false] rfl rfl (by kernel_rfl) (fun _ _ _ h => h) (Or.inl ⟨by rfl, ?_⟩) hHeld ?_ ?_
        · rintro w' s0
          go_simp
          try (with_reducible rfl)
        rotate_left
        · simp only [Act.put, List.setIfInBounds_toArray, List.set_cons_zero, List.set_cons_succ, i64_w, i32_w]
          rfl
        refine pure_ (i := 3) (N := some 34) (v := .slice A4 on (c' - 1)) (a' := ?_) #[true, true, true, true, false] rfl rfl (by kernel_rfl) (fun _ _ _ h => h) (Or.inl ⟨by rfl, ?_⟩) ?_ ?_
        · intro w'
          go_simp
          try (with_reducible rfl)
        rotate_left
        · simp only [Act.put, List.setIfInBounds_toArray, List.set_cons_zero, List.set_cons_succ, i64_w, i32_w]
          rfl
        refine last_ (i := 4) (N := some 35) #[true, true, true, true, true] rfl rfl (by kernel_rfl) (by decide) (fun K hK => ?_)
        obtain ⟨W4, hcp, bn4, hbl⟩ := copy_net gn A4 on (c' - 1) y4 W3.drew 3 (HC4.out _ (HJB.out _ _ (HJG.out _ _ _ HJ.out (below_drew HB3.out)))) HO4.out BN3.out
        go_simp
        refine hK.out _ _ ?_
        clear hK K hcp
        refine done_ (by kernel_rfl) ?_
        have hlt : gx < gn := HLT.out
        have hb34 : Below gn W3 W4 := hbl gn W3 (below_drew (Below.refl _ _)) (Nat.le_refl _)
        have BK4 : Hid (W4.heap[gx]? = some (.cells #[.int .u32 0, .int .i64 x, .int .u32 0] 32 (0, 0))) := (hb34.block gx hlt).trans BK3.out
        have HB4 : Hid (Below wr.heap.size wr W4) := hbl _ _ (below_drew HB3.out) HGN.out
        have BN4 : Hid (W4.heap[gn]? = some (.cells (arr4v y4) 43 (0, 0))) := bn4
        have HBX4 := Lib.hid (boxed_blw HBX1.out HB4.out)
        have H46' : Hid (∀ W, Below wr.heap.size wr W → ∀ j, j < 4 → W.cell? (ad6.add j) = some (.int .u8 (y6.getD j 0))) := fun W hW j hj => ((HJB.out _ _ (HJG.out _ _ _ HJ.out hW)).cell (World.block_lt_of_cell? w0 _ (H06.out j hj))).trans (H06.out j hj)
        have H46 : Hid (∀ W, Below wr.heap.size wr W → W.cell? ad6 = some (.int .u8 (y6.getD 0 0))) := fun W hW => by have := H46'.out W hW 0 (by decide); rwa [show ad6.add 0 = ad6 by unfold Addr.add; split <;> simp_all] at this
        clear hlt hb34 hbl bn4 BK3 BN3 HB3 HBX3 y1 hsl hcut4
        have y1 := HBX4.out.cell
        have hcut6 := HCUT6.out
        have harr := arr_of (some ad6) 4 c6 (Nat.le_refl _)
        go_wp2_with fail
        refine start_ (n := 14) (S := fun w' => w'.cell? ⟨Bn, 0, none⟩ = some (.slice (some ad) nn c') ∧ w'.cell? ⟨gn, 0, none⟩ = some (.int .u8 (y4.getD 0 0)) ∧ w'.cell? ⟨gn, 1, none⟩ = some (.int .u8 (y4.getD 1 0)) ∧ w'.cell? ⟨gn, 2, none⟩ = some (.int .u8 (y4.getD 2 0)) ∧ w'.cell? ⟨gn, 3, none⟩ = some (.int .u8 (y4.getD 3 0)) ∧ w'.cell? ad6 = some (.int .u8 (y6.getD 0 0)) ∧ w'.cell? ⟨ad6.block, ad6.off + 1, none⟩ = some (.int .u8 (y6.getD 1 0)) ∧ w'.cell? ⟨ad6.block, ad6.off + 2, none⟩ = some (.int .u8 (y6.getD 2 0)) ∧ w'.cell? ⟨ad6.block, ad6.off + 3, none⟩ = some (.int .u8 (y6.getD 3 0))) (ds := [11, 13]) #[false, false, false, false, false, false, false, false, false, false, false, false, false, false] (by kernel_rfl) rfl rfl ⟨y1, (blk_cell BN4.out 0).trans rfl, (blk_cell BN4.out 1).trans rfl, (blk_cell BN4.out 2).trans rfl, (blk_cell BN4.out 3).trans rfl, H46.out _ (below_drew HB4.out), H46'.out _ (below_drew HB4.out) 1 (by decide), H46'.out _ (below_drew HB4.out) 2 (by decide), H46'.out _ (below_drew HB4.out) 3 (by decide)⟩ (fun hHeld => ?_)
        obtain ⟨W5, hW5⟩ : ∃ W, W4.drew = W := ⟨_, rfl⟩
        have BK5 : Hid (W5.heap[gx]? = some (.cells #[.int .u32 0, .int .i64 x, .int .u32 0] 32 (0, 0))) := by show _ = _; rw [← hW5]; exact BK4.out
        have BN5 : Hid (W5.heap[gn]? = some (.cells (arr4v y4) 43 (0, 0))) := by show _ = _; rw [← hW5]; exact BN4.out
        have HB5 : Hid (Below wr.heap.size wr W5) := by show Below _ _ _; rw [← hW5]; exact below_drew HB4.out
        rw [hW5] at hHeld ⊢
        clear hW5 BK4 BN4 HB4 HBX4 y1
        refine pure_ (i := 3) (N := some 39) (v := .int .i64 m1) (a' := ?_) #[false, false, false, true, false, false, false, false, false, false, false, false, false, false] rfl rfl (by kernel_rfl) (fun _ _ _ h => h) (Or.inl ⟨by rfl, ?_⟩) ?_ ?_
        · intro w'
          go_simp
          try (with_reducible rfl)
        rotate_left
        · simp only [Act.put, List.setIfInBounds_toArray, List.set_cons_zero, List.set_cons_succ, i64_w, i32_w]
          rfl
        refine pure_ (i := 4) (N := some 40) (v := .int .i64 m1) (a' := ?_) #[false, false, false, true, true, false, false, false, false, false, false, false, false, false] rfl rfl (by kernel_rfl) (fun _ _ _ h => h) (Or.inl ⟨by rfl, ?_⟩) ?_ ?_
        · intro w'
          go_simp
          try (with_reducible rfl)
        rotate_left
        · simp only [Act.put, List.setIfInBounds_toArray, List.set_cons_zero, List.set_cons_succ, i64_w, i32_w]
          rfl
        refine pure_ (i := 5) (N := some 41) (v := .int .i64 m2) (a' := ?_) #[false, false, false, true, true, true, false, false, false, false, false, false, false, false] rfl rfl (by kernel_rfl) (fun _ _ _ h => h) (Or.inl ⟨by rfl, ?_⟩) ?_ ?_
        · intro w'
          go_simp
          try (with_reducible rfl)
        rotate_left
        · simp only [Act.put, List.setIfInBounds_toArray, List.set_cons_zero, List.set_cons_succ, i64_w, i32_w]
          rfl
        refine take_ (i := 0) (N := some 36) (v := .agg (arr4v y4)) (a' := ?_) #[true, false, false, true, true, true, false, false, false, false, false, false, false, false] rfl rfl (by kernel_rfl) (fun _ _ _ h => h) (Or.inl ⟨by rfl, ?_⟩) hHeld ?_ ?_
        · rintro w' ⟨s0, s1, s2, s3, s4, s5, s6, s7, s8⟩
          go_simp
          try (with_reducible rfl)
        rotate_left
        · simp only [Act.put, List.setIfInBounds_toArray, List.set_cons_zero, List.set_cons_succ, i64_w, i32_w]
          rfl
        refine take_ (i := 2) (N := some 38) (v := .slice (some ad) nn c') (a' := ?_) #[true, false, true, true, true, true, false, false, false, false, false, false, false, false] rfl rfl (by kernel_rfl) (fun _ _ _ h => h) (Or.inl ⟨by rfl, ?_⟩) hHeld ?_ ?_
        · rintro w' ⟨s0, s1, s2, s3, s4, s5, s6, s7, s8⟩
          go_simp
          try (with_reducible rfl)
        rotate_left
        · simp only [Act.put, List.setIfInBounds_toArray, List.set_cons_zero, List.set_cons_succ, i64_w, i32_w]
          rfl
        refine pure_ (i := 6) (N := some 42) (v := .slice (some ad6) 4 c6) (a' := ?_) #[true, false, true, true, true, true, true, false, false, false, false, false, false, false] rfl rfl (by kernel_rfl) (fun _ _ _ h => h) (Or.inl ⟨by rfl, ?_⟩) ?_ ?_
        · intro w'
          go_simp
          try (with_reducible rfl)
        rotate_left
        · simp only [Act.put, List.setIfInBounds_toArray, List.set_cons_zero, List.set_cons_succ, i64_w, i32_w]
          rfl
        refine pure_ (i := 7) (N := some 43) (v := .pointer (some ad6)) (a' := ?_) #[true, false, true, true, true, true, true, true, false, false, false, false, false, false] rfl rfl (by kernel_rfl) (fun _ _ _ h => h) (Or.inl ⟨by rfl, ?_⟩) ?_ ?_
        · intro w'
          go_simp
          try (with_reducible rfl)
        rotate_left
        · simp only [Act.put, List.setIfInBounds_toArray, List.set_cons_zero, List.set_cons_succ, i64_w, i32_w]
          rfl
        refine take_ (i := 8) (N := some 44) (v := .agg (arr4v y6)) (a' := ?_) #[true, false, true, true, true, true, true, true, true, false, false, false, false, false] rfl rfl (by kernel_rfl) (fun _ _ _ h => h) (Or.inl ⟨by rfl, ?_⟩) hHeld ?_ ?_
        · rintro w' ⟨s0, s1, s2, s3, s4, s5, s6, s7, s8⟩
          go_simp
          try (with_reducible rfl)
        rotate_left
        · simp only [Act.put, List.setIfInBounds_toArray, List.set_cons_zero, List.set_cons_succ, i64_w, i32_w]
          rfl
        refine one_ (i := 1) (N := some 37) #[true, true, true, true, true, true, true, true, true, false, false, false, false, false] rfl rfl (by kernel_rfl) (by decide) (fun K hK => ?_)
        refine goes_ Try.func35 (by kernel_rfl) rfl #[.agg (arr4v y4)] (by rfl) rfl rfl (by (try simp only [List.map_toArray, List.map_cons, List.map_nil]); rfl) ?_
        refine (HOC4.out _).mono ?_
        rintro e w7 ⟨rfl, hb7⟩
        have BK7 : Hid (w7.heap[gx]? = some (.cells #[.int .u32 0, .int .i64 x, .int .u32 0] 32 (0, 0))) := (hb7.block gx (blk_lt BK5.out)).trans BK5.out
        have BN7 : Hid (w7.heap[gn]? = some (.cells (arr4v y4) 43 (0, 0))) := (hb7.block gn (blk_lt BN5.out)).trans BN5.out
        have HB7 : Hid (Below wr.heap.size wr w7) := HB5.out.trans (hb7.mono HB5.out.size)
        clear hb7 BK5 BN5 HB5 hHeld
        refine ⟨_, rfl, ?_⟩
        refine hK.out _ _ ⟨(boxed_blw HBX1.out HB7.out).cell, (blk_cell BN7.out 0).trans rfl, (blk_cell BN7.out 1).trans rfl, (blk_cell BN7.out 2).trans rfl, (blk_cell BN7.out 3).trans rfl, H46.out _ HB7.out, H46'.out _ HB7.out 1 (by decide), H46'.out _ HB7.out 2 (by decide), H46'.out _ HB7.out 3 (by decide)⟩ (fun hHeld => ?_)
        clear hK K
        try (refine norm_ (a' := ?_) ?_ ?_; rotate_left; focus (simp only [Act.put, List.setIfInBounds_toArray, List.set_cons_zero, List.set_cons_succ, i64_w, i32_w]; rfl))
        refine pure_ (i := 10) (N := some 46) (v := ?_) (a' := ?_) #[true, true, true, true, true, true, true, true, true, false, true, false, false, false] rfl rfl (by kernel_rfl) (fun _ _ _ h => h) (Or.inl ⟨by rfl, ?_⟩) ?_ ?_
        rotate_left
        · intro w'
          go_simp
          with_reducible rfl
        rotate_left
        · simp only [Act.put, List.setIfInBounds_toArray, List.set_cons_zero, List.set_cons_succ, i64_w, i32_w]
          rfl
        refine one_ (i := 9) (N := some 45) #[true, true, true, true, true, true, true, true, true, true, true, false, false, false] rfl rfl (by kernel_rfl) (by decide) (fun K hK => ?_)
        refine goes_ Try.func35 (by kernel_rfl) rfl #[.agg (arr4v y6)] (by rfl) rfl rfl (by (try simp only [List.map_toArray, List.map_cons, List.map_nil]); rfl) ?_
        refine (HOC6.out _).mono ?_
        rintro e w8 ⟨rfl, hb8⟩
        have BK8 : Hid (w8.heap[gx]? = some (.cells #[.int .u32 0, .int .i64 x, .int .u32 0] 32 (0, 0))) := (hb8.block gx (blk_lt BK7.out)).trans BK7.out
        have BN8 : Hid (w8.heap[gn]? = some (.cells (arr4v y4) 43 (0, 0))) := (hb8.block gn (blk_lt BN7.out)).trans BN7.out
        have HB8 : Hid (Below wr.heap.size wr w8) := HB7.out.trans (hb8.mono HB7.out.size)
        clear hb8 BK7 BN7 HB7 hHeld
        refine ⟨_, rfl, ?_⟩
        refine hK.out _ _ ⟨(boxed_blw HBX1.out HB8.out).cell, (blk_cell BN8.out 0).trans rfl, (blk_cell BN8.out 1).trans rfl, (blk_cell BN8.out 2).trans rfl, (blk_cell BN8.out 3).trans rfl, H46.out _ HB8.out, H46'.out _ HB8.out 1 (by decide), H46'.out _ HB8.out 2 (by decide), H46'.out _ HB8.out 3 (by decide)⟩ (fun hHeld => ?_)
        clear hK K
        try (refine norm_ (a' := ?_) ?_ ?_; rotate_left; focus (simp only [Act.put, List.setIfInBounds_toArray, List.set_cons_zero, List.set_cons_succ, i64_w, i32_w]; rfl))
        refine last_ (i := 11) (N := none) #[true, true, true, true, true, true, true, true, true, true, true, true, false, false] rfl rfl (by kernel_rfl) (by decide) (fun K hK => ?_)
        have u0 := (blk_cell BK8.out 0).trans rfl
        have f0 := blk_frozen BK8.out 0
        go_simp
        obtain ⟨w9, hw9⟩ : ∃ W, w8.setCell ⟨gx, 0, none⟩ (.int .u32 v4) = W := ⟨_, rfl⟩
        have BK9 : Hid (w9.heap[gx]? = some (.cells #[.int .u32 v4, .int .i64 x, .int .u32 0] 32 (0, 0))) := by show _ = _; rw [← hw9]; exact blk_put BK8.out 0 _ rfl
        have HB9 : Hid (Below wr.heap.size wr w9) := by show Below _ _ _; rw [← hw9]; exact below_set HB8.out HGX.out
        rw [hw9]
        clear hw9 u0 f0 BK8 BN8 HB8
        refine hK.out _ _ ?_
        clear hK K
        refine pure_ (i := 12) (N := some 47) (v := ?_) (a' := ?_) #[true, true, true, true, true, true, true, true, true, true, true, true, true, false] rfl rfl (by kernel_rfl) (fun _ _ _ h => h) (Or.inl ⟨by rfl, ?_⟩) ?_ ?_
        rotate_left
        · intro w'
          go_simp
          with_reducible rfl
        rotate_left
        · simp only [Act.put, List.setIfInBounds_toArray, List.set_cons_zero, List.set_cons_succ, i64_w, i32_w]
          rfl
        refine last_ (i := 13) (N := none) #[true, true, true, true, true, true, true, true, true, true, true, true, true, true] rfl rfl (by kernel_rfl) (by decide) (fun K hK => ?_)
        have u2 := (blk_cell BK9.out 2).trans rfl
        have f2 := blk_frozen BK9.out 2
        go_simp
        refine hK.out _ _ ?_
        clear hK K u2 f2
        refine done_ (by kernel_rfl) ?_
        obtain ⟨wa, hwa⟩ : ∃ W, w9.setCell ⟨gx, 2, none⟩ (.int .u32 v6) = W := ⟨_, rfl⟩
        have BKa : Hid (wa.heap[gx]? = some (.cells #[.int .u32 v4, .int .i64 x, .int .u32 v6] 32 (0, 0))) := by show _ = _; rw [← hwa]; exact blk_put BK9.out 2 _ rfl
        have HBa : Hid (Below wr.heap.size wr wa) := by show Below _ _ _; rw [← hwa]; exact below_set HB9.out HGX.out
        rw [hwa]
        clear hwa BK9 HB9 hcut6 harr H46 H46'
        have HBXa := Lib.hid (boxed_blw HBX1.out HBa.out)
        have HJa := Lib.hid (HJG.out _ _ _ HJ.out HBa.out)
        have y1 := HBXa.out.cell
        have z1 := HBXa.out.frozen
        have r3 := HR3.out
        go_upto_region 9 with fail
        obtain ⟨wb, hwb⟩ : ∃ W, wa.setCell ⟨Bn, 0, none⟩ (.slice A5 s5.length c5) = W := ⟨_, rfl⟩
        have hnb : gx ≠ Bn := by have h1 := HBX1.out.lt; have h2 := HGX.out; omega
        have BKb : Hid (wb.heap[gx]? = some (.cells #[.int .u32 v4, .int .i64 x, .int .u32 v6] 32 (0, 0))) := by show _ = _; rw [← hwb]; exact (Below.heap_setCell _ _ _ _ hnb).trans BKa.out
        have HBXb : Hid (Boxed wb Bn 24 (.slice A5 s5.length c5)) := by show Boxed _ _ _ _; rw [← hwb]; exact HBXa.out.set _
        have HJb : Hid (J pre wb) := by show J _ _; rw [← hwb]; exact HJS.out _ _ _ _ HJa.out HBXa.out
        rw [hwb]
        clear hwb hnb y1 z1 r3 BKa HBa HBXa HJa
        obtain ⟨rb, hrb⟩ : ∃ q, rtRight ⟨v4, x, v6⟩ = q := ⟨_, rfl⟩
        have HRC := Lib.hid (fun W => route_Right.calls v4 x v6 (rtRight ⟨v4, x, v6⟩) W (right_total ⟨v4, x, v6⟩))
        rw [hrb] at HRC
        have HRB := Lib.hid hrb
        clear hrb
        refine (wpIn_wide (n := n + 1)).1 ?_
        refine startI_ (m := 6) (S := fun w' => w'.cell? ⟨gx, 0, none⟩ = some (.int .u32 v4) ∧ w'.cell? ⟨gx, 1, none⟩ = some (.int .i64 x) ∧ w'.cell? ⟨gx, 2, none⟩ = some (.int .u32 v6)) (ds := [4]) #[false, false, false, false, false, false] (by kernel_rfl) rfl rfl ⟨(blk_cell BKb.out 0).trans rfl, (blk_cell BKb.out 1).trans rfl, (blk_cell BKb.out 2).trans rfl⟩ (fun hHeld => ?_)
        obtain ⟨wc, hwc⟩ : ∃ W, wb.drew = W := ⟨_, rfl⟩
        have hbc : Below wb.heap.size wb wc := by rw [← hwc]; exact below_drew (Below.refl _ _)
        have BKc : Hid (wc.heap[gx]? = some (.cells #[.int .u32 v4, .int .i64 x, .int .u32 v6] 32 (0, 0))) := (hbc.block _ (blk_lt BKb.out)).trans BKb.out
        have HBXc := Lib.hid (boxed_blw HBXb.out hbc)
        have HJc := Lib.hid (HJG.out _ _ _ HJb.out hbc)
        rw [hwc] at hHeld ⊢
        clear hwc hbc BKb HBXb HJb
        refine pureI_ (i := 0) (N := some 52) (v := .func (.yield l) #[] #[]) (a' := ?_) rfl #[true, false, false, false, false, false] rfl rfl (by kernel_rfl) (fun _ _ _ h => h) (Or.inl ⟨by rfl, ?_⟩) (fun _ => rfl) ?_ ?_
        · intro w' _
          go_simp
          try (with_reducible rfl)
        rotate_left
        · simp only [Act.put, List.setIfInBounds_toArray, List.set_cons_zero, List.set_cons_succ, i64_w, i32_w]
          rfl
        refine takeI_ (i := 1) (N := some 53) (v := .agg #[.int .u32 v4, .int .i64 x, .int .u32 v6]) (a' := ?_) rfl #[true, true, false, false, false, false] rfl rfl (by kernel_rfl) (fun _ _ _ h => h) (Or.inl ⟨by rfl, ?_⟩) (fun _ => rfl) hHeld ?_ ?_
        · rintro w' ⟨s0, s1, s2⟩
          go_simp
          try (with_reducible rfl)
        rotate_left
        · simp only [Act.put, List.setIfInBounds_toArray, List.set_cons_zero, List.set_cons_succ, i64_w, i32_w]
          rfl
        refine takeI_ (i := 2) (N := some 54) (v := .agg #[.int .u32 v4, .int .i64 x, .int .u32 v6]) (a' := ?_) rfl #[true, true, true, false, false, false] rfl rfl (by kernel_rfl) (fun _ _ _ h => h) (Or.inl ⟨by rfl, ?_⟩) (fun _ => rfl) hHeld ?_ ?_
        · rintro w' ⟨s0, s1, s2⟩
          go_simp
          try (with_reducible rfl)
        rotate_left
        · simp only [Act.put, List.setIfInBounds_toArray, List.set_cons_zero, List.set_cons_succ, i64_w, i32_w]
          rfl
        refine oneI_ (i := 3) (N := some 55) #[true, true, true, true, false, false] rfl rfl (by kernel_rfl) (by decide) (by rfl) (fun K hK => ?_)
        refine callI_ (N := some 55) Try.func12 (by kernel_rfl) rfl #[.agg #[.int .u32 v4, .int .i64 x, .int .u32 v6]] rfl rfl (by (try simp only [List.map_toArray, List.map_cons, List.map_nil]); rfl) ?_
        refine (HRC.out _).mono ?_
        rintro e wd ⟨rfl, hbd⟩
        have BKd : Hid (wd.heap[gx]? = some (.cells #[.int .u32 v4, .int .i64 x, .int .u32 v6] 32 (0, 0))) := (hbd.block _ (blk_lt BKc.out)).trans BKc.out
        have HBXd := Lib.hid (boxed_blw HBXc.out hbd)
        have HJd := Lib.hid (HJG.out _ _ _ HJc.out hbd)
        clear hbd BKc HBXc HJc hHeld
        refine ⟨_, rfl, ?_⟩
        refine hK.out _ _ ⟨(blk_cell BKd.out 0).trans rfl, (blk_cell BKd.out 1).trans rfl, (blk_cell BKd.out 2).trans rfl⟩ (fun hHeld => ?_)
        clear hK K
        refine normI_ (a' := ?_) ?_ ?_
        rotate_left
        focus (simp only [Act.put, List.setIfInBounds_toArray, List.set_cons_zero, List.set_cons_succ, i64_w, i32_w]; rfl)
        refine lastI_ (i := 4) (N := some 56) #[true, true, true, true, true, false] rfl rfl (by kernel_rfl) (by decide) (by rfl) (fun K hK => ?_)
        have HYB : YieldAt Fence.wide n Try.prog l #[.agg #[.int .u32 v4, .int .i64 x, .int .u32 v6], .bool rb] wd fun e W' => e = .returned (.bool rb) ∧ (if rb = true then J (pre ++ [⟨v4, x, v6⟩]) W' ∧ Boxed W' Bn 24 (.slice A5 s5.length c5) else rdGo b [] = none ∧ End W') := by
          cases rb with
          | true => exact yieldAt_mono (HY1.out pre wd ⟨v4, x, v6⟩ _ HJd.out HPL.out HBXd.out) (fun e w' h => ⟨h.1, by rw [if_pos rfl]; exact h.2⟩)
          | false =>
            have hno : rdGo b [] = none := HP.out.symm.trans (rdGo_wrong (by rw [HON.out]; exact HGD.out) (by rw [HXR.out]; exact HRB.out))
            exact yieldAt_mono (HY2.out pre wd ⟨v4, x, v6⟩ HJd.out hno) (fun e w' h => ⟨h.1, by rw [if_neg (by decide)]; exact ⟨hno, h.2⟩⟩)
        refine yieldI_ (N := some 56) (l := l) #[.agg #[.int .u32 v4, .int .i64 x, .int .u32 v6], .bool rb] rfl rfl (by rfl) (by (try simp only [List.map_toArray, List.map_cons, List.map_nil]); rfl) ?_
        refine yieldAt_mono HYB ?_
        rintro e W7 ⟨rfl, hif⟩
        have HIF := Lib.hid hif
        clear HYB hif HJd HBXd BKd hHeld
        refine ⟨_, rfl, ?_⟩
        refine hK.out _ _ ?_
        clear hK K
        refine normI_ (a' := ?_) ?_ ?_
        rotate_left
        focus (simp only [Act.put, List.setIfInBounds_toArray, List.set_cons_zero, List.set_cons_succ, i64_w, i32_w]; rfl)
        refine pureI_ (i := 5) (N := some 57) (v := .bool (!rb)) (a' := ?_) rfl #[true, true, true, true, true, true] rfl rfl (by kernel_rfl) (fun _ _ _ h => h) (Or.inl ⟨by rfl, ?_⟩) (fun _ => rfl) ?_ ?_
        · intro w' _
          go_simp
          try (with_reducible rfl)
        rotate_left
        · simp only [Act.put, List.setIfInBounds_toArray, List.set_cons_zero, List.set_cons_succ, i64_w, i32_w]
          rfl
        refine doneI_ (by kernel_rfl) ?_
        cases rb with
        | false =>
          have hif := HIF.out
          rw [if_neg (by decide)] at hif
          have HE := Lib.hid hif
          clear hif HIF
          go_wp2_with fail
          refine bodyPost_ret (results_none rfl _ _ _) rfl ⟨⟨_, rfl⟩, Or.inr HE.out⟩
        | true =>
          have hif := HIF.out
          rw [if_pos rfl] at hif
          have HJ7 := Lib.hid hif.1
          have HB7 := Lib.hid hif.2
          clear hif HIF
          go_wp2_with fail
          have HBY5 : Hid (∀ y ∈ s5, 0 ≤ y ∧ y ≤ 255) := fun y hy2 => HBR.out y (List.mem_of_mem_drop (HS5.out ▸ hy2))
          have HP5 : Hid (rdGo s5 (pre ++ [⟨v4, x, v6⟩]) = rdGo b []) := by
            have h1 := (rdGo_step (pre := pre) (by rw [HON.out]; exact HGD.out) (by rw [HXR.out]; exact HRB.out)).symm.trans HP.out
            rw [HXR.out, HON.out, ← HS5.out] at h1
            exact h1
          go_roundg (s5.length)
          case measure => exact HM5.out
          case rel => exact ⟨s5, A5, c5, pre ++ [⟨v4, x, v6⟩], rfl, HL5, Lib.hid (by have := HLP5.out; simp only [List.length_append, List.length_singleton]; omega), HBY5, HC5, HB7, HJ7, HP5⟩
end Go.Proofs.Yteniakelhalojaa
