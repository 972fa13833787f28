/-
  What the reference's Decode computes, over lists. No condition of its own.
  Printed: PrF5.
  The statement PacketDecodes walked: both Decodes tell the same. Condition: bytes.
  Printed: StPacketDecodes.
  The statement PacketDecodes over numbers and lists: its bytes are bytes (the rest is in the walk of the law). No condition.
-/
import Derived.Test.YtmbfdmceameghaaDoorMPD9
import Derived.Test.YtmbfdmceameghaaDoorMPD10
import Derived.Test.YtmbfdmceameghaaDoorMPD2
import Derived.Test.YtmbfdmceameghaaDoorMPD5
import Derived.Test.YtmbfdmceameghaaDoorMPD4

section
namespace Go.Proofs.YtmbfdmceameghaaDoor.PQ
open Go.RowKit Go.Proofs.YtmbfdmceameghaaDoor Go.Proofs.YtmbfdmceameghaaDoor.Pr Go.Proofs.YtmbfdmceameghaaDoorW.PrintWords Go.Proofs.YtmbfdmceameghaaDoorW.PrintLast Go.Proofs.YtmbfdmceameghaaDoorW.PrintMore
set_option linter.unusedVariables false
set_option linter.unusedSimpArgs false

theorem of_step (l : List Int) (hb : bytesL l) (k : Nat) (acc : Int) (i : Nat) (hi : i < l.length) (hl : l.length ≤ 100) (h0 : 0 ≤ acc) (h1 : acc < 16777216) : lessorref03_of.l0 (k + 1) l acc (i : Int) = lessorref03_of.l0 k l (acc * 256 + l[i]) ((i + 1 : Nat) : Int) := by
  have hx := hb _ (List.getElem_mem hi)
  simp only [lessorref03_of.l0]
  rw [if_pos (by omega), if_pos (by omega), PD.rd_of hi, wrapQ (x := l[i]) (by omega) (by omega), wrapQ (x := acc * 256) (by omega) (by omega), wrapQ (by omega) (by omega), wrapQ (by omega) (by omega)]
  rfl
theorem of_end (l : List Int) (k : Nat) (acc : Int) : lessorref03_of.l0 (k + 1) l acc (l.length : Int) = some acc := by
  simp only [lessorref03_of.l0]
  rw [if_neg (by omega)]
theorem of4 {a b c d : Int} (hb : bytesL [a, b, c, d]) (k : Nat) (hk : 5 ≤ k) : lessorref03_of.f k [a, b, c, d] = some (((a * 256 + b) * 256 + c) * 256 + d) := by
  have h1 := hb a (by simp)
  have h2 := hb b (by simp)
  have h3 := hb c (by simp)
  obtain ⟨k, rfl⟩ : ∃ m, k = m + 5 := ⟨k - 5, by omega⟩
  unfold lessorref03_of.f
  have s0 := of_step [a, b, c, d] hb (k + 4) 0 0 (by simp) (by simp) (by omega) (by omega)
  have s1 := of_step [a, b, c, d] hb (k + 3) (0 * 256 + a) 1 (by simp) (by simp) (by omega) (by omega)
  have s2 := of_step [a, b, c, d] hb (k + 2) ((0 * 256 + a) * 256 + b) 2 (by simp) (by simp) (by omega) (by omega)
  have s3 := of_step [a, b, c, d] hb (k + 1) (((0 * 256 + a) * 256 + b) * 256 + c) 3 (by simp) (by simp) (by omega) (by omega)
  have s4 := of_end [a, b, c, d] k ((((0 * 256 + a) * 256 + b) * 256 + c) * 256 + d)
  have t := s0.trans (s1.trans (s2.trans (s3.trans s4)))
  simpa using t
theorem of2 {a b : Int} (hb : bytesL [a, b]) (k : Nat) (hk : 3 ≤ k) : lessorref03_of.f k [a, b] = some (a * 256 + b) := by
  have h1 := hb a (by simp)
  obtain ⟨k, rfl⟩ : ∃ m, k = m + 3 := ⟨k - 3, by omega⟩
  unfold lessorref03_of.f
  have s0 := of_step [a, b] hb (k + 2) 0 0 (by simp) (by simp) (by omega) (by omega)
  have s1 := of_step [a, b] hb (k + 1) (0 * 256 + a) 1 (by simp) (by simp) (by omega) (by omega)
  have s2 := of_end [a, b] k ((0 * 256 + a) * 256 + b)
  have t := s0.trans (s1.trans s2)
  simpa using t
theorem of_l {l : List Int} (hb : bytesL l) (j : Nat) (h : j + 4 ≤ l.length) (k : Nat) (hk : 5 ≤ k) : lessorref03_of.f k ((l.take (j + 4)).drop j) = some (lA l j) := by
  rw [List.drop_take, show j + 4 - j = 4 from by omega, drop_four h, of4 (by
    intro x hx
    simp only [List.mem_cons, List.not_mem_nil, or_false] at hx
    rcases hx with rfl | rfl | rfl | rfl <;> exact bA_in hb _) k hk]
  congr 1
  rw [show lA l j = (bA l j * 256 + bA l (j + 1)) * 65536 + (bA l (j + 2) * 256 + bA l (j + 3)) from rfl]
  omega
theorem of_s {l : List Int} (hb : bytesL l) (j : Nat) (h : j + 2 ≤ l.length) (k : Nat) (hk : 3 ≤ k) : lessorref03_of.f k ((l.take (j + 2)).drop j) = some (sA l j) := by
  rw [List.drop_take, show j + 2 - j = 2 from by omega, drop_two h, of2 (by
    intro x hx
    simp only [List.mem_cons, List.not_mem_nil, or_false] at hx
    rcases hx with rfl | rfl <;> exact bA_in hb _) k hk]
  rfl
theorem ref_decode_eq (l : List Int) (hb : bytesL l) (hl : l.length ≤ 3000) (k : Nat) (hk : 4400 ≤ k) : lessorref03_Decode.f k l = some (pdR l) := by
  have no : ¬ (rdOk l ∧ (bA l 0 = 1 ∨ bA l 0 = 2) ∧ 1 ≤ bA l 2) → ∀ k, lessorref03_Decode.j0 (k + 1) l true = some (pdR l) := by
    intro h k
    simp only [lessorref03_Decode.j0, if_true]
    unfold pdR
    rw [if_neg h]
  have h2 := bA_in hb 2
  have h0 := bA_in hb 0
  obtain ⟨k, rfl⟩ : ∃ m, k = m + 2 := ⟨k - 2, by omega⟩
  unfold lessorref03_Decode.f
  by_cases c1 : l.length < 240
  · rw [if_pos (by omega)]
    exact no (fun h => by have := h.1.1; omega) _
  rw [if_neg (by omega), if_pos (by omega), show rd l 2 = bA l 2 from rfl]
  by_cases c2 : bA l 2 < 1
  · rw [if_pos c2]
    exact no (fun h => by have := h.2.2; omega) _
  rw [if_neg c2]
  by_cases c3 : bA l 2 > 16
  · rw [decide_eq_true c3]
    exact no (fun h => by have := h.1.2.2.1; omega) _
  rw [decide_eq_false c3]
  have hn : bA l 2 ≤ 16 := by omega
  have hl2 : 240 ≤ l.length := by omega
  have hw : [] ++ ((l.take ((28 + bA l 2 : Int)).toNat).drop 28) = hwOf l := by
    rw [List.nil_append, List.drop_take, show (28 + bA l 2).toNat - 28 = (bA l 2).toNat from by omega]
    rfl
  have hwl := hw_len hl2 hn
  have a4 := lA_in hb 4
  have a12 := lA_in hb 12
  have a16 := lA_in hb 16
  have a20 := lA_in hb 20
  have a24 := lA_in hb 24
  have m4 : lA l 4 % 4294967296 = lA l 4 := by omega
  have m12 : lA l 12 % 4294967296 = lA l 12 := by omega
  have m16 : lA l 16 % 4294967296 = lA l 16 := by omega
  have m20 : lA l 20 % 4294967296 = lA l 20 := by omega
  have m24 : lA l 24 % 4294967296 = lA l 24 := by omega
  have e0 : wrap64 (rd l 0) = bA l 0 := wrapQ (x := bA l 0) (by omega) (by omega)
  have e2 : wrap64 (rd l 2) = bA l 2 := wrapQ (x := bA l 2) (by omega) (by omega)
  have e28 : wrap64 (28 + bA l 2) = 28 + bA l 2 := wrapQ (by omega) (by omega)
  simp only [lessorref03_Decode.j0, Bool.false_eq_true, if_false]
  rw [if_pos (by omega), if_pos (by decide), if_pos (by omega), of_l hb 4 (by omega) (k + 1) (by omega), Option.bind_some, if_pos (by decide), if_pos (by omega), of_s hb 8 (by omega) (k + 1) (by omega), Option.bind_some,
    if_pos (by decide), if_pos (by omega), of_s hb 10 (by omega) (k + 1) (by omega), Option.bind_some, if_pos (by decide), if_pos (by omega), of_l hb 12 (by omega) (k + 1) (by omega), Option.bind_some,
    if_pos (by decide), if_pos (by omega), of_l hb 16 (by omega) (k + 1) (by omega), Option.bind_some, if_pos (by decide), if_pos (by omega), of_l hb 20 (by omega) (k + 1) (by omega), Option.bind_some,
    if_pos (by decide), if_pos (by omega), of_l hb 24 (by omega) (k + 1) (by omega), Option.bind_some, Option.bind_some, if_pos (by omega), e2, e28, if_pos (by omega), if_pos (by omega), if_pos (by rw [← hw] at hwl; simp only [List.nil_append, List.length_nil] at hwl ⊢; omega), Option.bind_some, hw, e0, m4, m12, m16, m20, m24]
  have hpk : pkOk (lA l 4) (lA l 12) (lA l 16) (lA l 20) (lA l 24) := ⟨by omega, by omega, by omega, by omega, by omega⟩
  rw [PP.ref_pk_encode_eq _ _ _ _ _ _ _ _ hpk (hwOf l) [] ⟨by simp, by simp⟩ (k + 1) (by omega)]
  simp only [Option.bind_some]
  unfold PP.encPk
  by_cases c4 : PP.okPk (bA l 0) (sA l 8) (sA l 10) (hwOf l) []
  · have c5 := (okPk_of hb hl2 hn [] encR_nil).1 c4
    rw [if_pos c4]
    simp only [if_true]
    have hd : pkHead (bA l 0) (lA l 4) (sA l 8) (sA l 10) (lA l 12) (lA l 16) (lA l 20) (lA l 24) (hwOf l) = headOf l := rfl
    have hln := head_len hl2 hn h2.1
    rw [hd, if_pos (by rw [List.length_append]; omega), if_pos (by omega), List.take_append_of_le_length (by omega), List.take_of_length_le (by omega)]
    simp only [lessorref03_Decode.j1]
    rw [show ((strOfNums (headOf l)).toList != (strOfNums (l.take 240)).toList) = !decide (headOf l = l.take 240) from by rw [bne, str_inj (bytes_head hb hl2 hn) (fun x hx => hb x (List.mem_of_mem_take hx))]]
    by_cases c6 : headOf l = l.take 240
    · rw [decide_eq_true c6, Bool.not_true, if_neg (by decide), if_pos (by omega), PD.ref_decode_eq _ (fun x hx => hb x (List.mem_of_mem_drop hx)) k (by omega)]
      simp only [Option.bind_some]
      obtain ⟨g1, g3, gp, gc⟩ := (head_iff hb hl2 hn).1 c6
      unfold pdR
      by_cases c7 : (odR (l.drop 240)).2 = 0
      · rw [if_pos c7, if_pos ⟨⟨hl2, g1, hn, g3, gp, gc, c7⟩, c5⟩]
      · rw [if_neg c7, if_neg (fun h => c7 h.1.2.2.2.2.2.2)]
    · rw [decide_eq_false c6, Bool.not_false, if_pos rfl]
      unfold pdR
      rw [if_neg (fun h => c6 ((head_iff hb hl2 hn).2 ⟨h.1.2.1, h.1.2.2.2.1, h.1.2.2.2.2.1, h.1.2.2.2.2.2.1⟩))]
  · rw [if_neg c4]
    simp only [show ¬ ((1 : Int) = 0) by decide, if_false, lessorref03_Decode.j1, if_true]
    unfold pdR
    rw [if_neg (fun h => c4 ((okPk_of hb hl2 hn [] encR_nil).2 h.2))]
end Go.Proofs.YtmbfdmceameghaaDoor.PQ
end

section
-- written by a program of this session (wip/tools/gen.py) over the kit's print
namespace Go.Proofs.YtmbfdmceameghaaDoor.Pr
open Go.RowKit Go.Proofs.YtmbfdmceameghaaDoorW.PrintWords Go.Proofs.YtmbfdmceameghaaDoorW.PrintLast Go.Proofs.YtmbfdmceameghaaDoorW.PrintMore
attribute [local go_sem] max2_int min2_int max_two min_two max_three min_three max_four min_four   -- for this text's walks alone
set_option linter.unusedVariables false
set_option linter.unusedSimpArgs false

/-! ### lessorlaw03_awake: function 5 -/
def lessorlaw03_awake.f (k : Nat)  : Option (Bool) := (packet_Encode.f k 1 258 0 0 0 0 0 0 (([7] : List Int)) (([(⟨53, (([3] : List Int))⟩ : S39)] : List (S39)))).bind fun bt304 => (if bt304.2 = 0 then (if (bt304.1.length : Int) = 244 then (if 6 < (bt304.1.length : Int) then (if (rd bt304.1 6) = 1 then (if 7 < (bt304.1.length : Int) then (if (rd bt304.1 7) = 2 then (if 28 < (bt304.1.length : Int) then (if (rd bt304.1 28) = 7 then (if 236 < (bt304.1.length : Int) then (if (rd bt304.1 236) = 99 then (if 240 < (bt304.1.length : Int) then (some ((rd bt304.1 240) == 53)) else (none)) else (some false)) else (none)) else (some false)) else (none)) else (some false)) else (none)) else (some false)) else (none)) else (some false)) else (some false))
theorem lessorlaw03_awake.mono : ∀ k, LeO (lessorlaw03_awake.f k ) (lessorlaw03_awake.f (k + 1) ) := by
 intro  k
 unfold lessorlaw03_awake.f
 repeat' first
   | (with_reducible exact packet_Encode.mono _ _ _ _ _ _ _ _ _ _ _)
   | (with_reducible exact LeO.refl _)
   | (with_reducible exact LeO.none _)
   | (with_reducible refine LeO.ite ?_ ?_)
   | (with_reducible refine LeO.bind ?_ (fun _ => ?_))
   | exact packet_Encode.mono _ _ _ _ _ _ _ _ _ _ _
   | exact LeO.none _
   | refine LeO.ite ?_ ?_
   | refine LeO.bind ?_ (fun _ => ?_)
set_option maxHeartbeats 8000000 in
set_option maxRecDepth 100000 in
theorem lessorlaw03_awake.calls (k : Nat)  (r : Bool) (w : World) (h : lessorlaw03_awake.f k  = some r) :
  Calls Tryd.prog 5 #[] w fun e w' => e = .returned (.bool r) ∧ Below w.heap.size w w' := by
 have hu39 := Tryd.underlying39
 have hu28 := Tryd.underlying28
 have HB := Aside0.mk (Below.refl w.heap.size w)
 have H : ((packet_Encode.f k 1 258 0 0 0 0 0 0 (([7] : List Int)) (([(⟨53, (([3] : List Int))⟩ : S39)] : List (S39)))).bind fun bt304 => (if bt304.2 = 0 then (if (bt304.1.length : Int) = 244 then (if 6 < (bt304.1.length : Int) then (if (rd bt304.1 6) = 1 then (if 7 < (bt304.1.length : Int) then (if (rd bt304.1 7) = 2 then (if 28 < (bt304.1.length : Int) then (if (rd bt304.1 28) = 7 then (if 236 < (bt304.1.length : Int) then (if (rd bt304.1 236) = 99 then (if 240 < (bt304.1.length : Int) then (some ((rd bt304.1 240) == 53)) else (none)) else (some false)) else (none)) else (some false)) else (none)) else (some false)) else (none)) else (some false)) else (none)) else (some false)) else (some false))) = some r := h
 clear h
 obtain ⟨y295, hy295⟩ : ∃ y_ : List Int, y_ = (([7] : List Int)) := ⟨_, rfl⟩
 replace H : ((packet_Encode.f k 1 258 0 0 0 0 0 0 y295 (([(⟨53, (([3] : List Int))⟩ : S39)] : List (S39)))).bind fun bt304 => (if bt304.2 = 0 then (if (bt304.1.length : Int) = 244 then (if 6 < (bt304.1.length : Int) then (if (rd bt304.1 6) = 1 then (if 7 < (bt304.1.length : Int) then (if (rd bt304.1 7) = 2 then (if 28 < (bt304.1.length : Int) then (if (rd bt304.1 28) = 7 then (if 236 < (bt304.1.length : Int) then (if (rd bt304.1 236) = 99 then (if 240 < (bt304.1.length : Int) then (some ((rd bt304.1 240) == 53)) else (none)) else (some false)) else (none)) else (some false)) else (none)) else (some false)) else (none)) else (some false)) else (none)) else (some false)) else (some false))) = some r := by first | (rw [hy295]; with_reducible exact H) | (have H2_ := (Option.bind_some _ _).symm.trans H; rw [hy295]; with_reducible exact H2_) | (have H2_ := (Option.bind_some _ _).symm.trans H; with_reducible exact H2_) | with_reducible exact H | (rw [hy295]; exact H) | exact H
 have Ny295 := Aside0.mk hy295
 clear hy295
 obtain ⟨y298, hy298⟩ : ∃ y_ : List Int, y_ = (([3] : List Int)) := ⟨_, rfl⟩
 replace H : ((packet_Encode.f k 1 258 0 0 0 0 0 0 y295 (([(⟨53, y298⟩ : S39)] : List (S39)))).bind fun bt304 => (if bt304.2 = 0 then (if (bt304.1.length : Int) = 244 then (if 6 < (bt304.1.length : Int) then (if (rd bt304.1 6) = 1 then (if 7 < (bt304.1.length : Int) then (if (rd bt304.1 7) = 2 then (if 28 < (bt304.1.length : Int) then (if (rd bt304.1 28) = 7 then (if 236 < (bt304.1.length : Int) then (if (rd bt304.1 236) = 99 then (if 240 < (bt304.1.length : Int) then (some ((rd bt304.1 240) == 53)) else (none)) else (some false)) else (none)) else (some false)) else (none)) else (some false)) else (none)) else (some false)) else (none)) else (some false)) else (some false))) = some r := by first | (rw [hy298]; with_reducible exact H) | (have H2_ := (Option.bind_some _ _).symm.trans H; rw [hy298]; with_reducible exact H2_) | (have H2_ := (Option.bind_some _ _).symm.trans H; with_reducible exact H2_) | with_reducible exact H | (rw [hy298]; exact H) | exact H
 have Ny298 := Aside0.mk hy298
 clear hy298
 obtain ⟨y301, hy301⟩ : ∃ y_ : List (S39), y_ = (([(⟨53, y298⟩ : S39)] : List (S39))) := ⟨_, rfl⟩
 replace H : ((packet_Encode.f k 1 258 0 0 0 0 0 0 y295 y301).bind fun bt304 => (if bt304.2 = 0 then (if (bt304.1.length : Int) = 244 then (if 6 < (bt304.1.length : Int) then (if (rd bt304.1 6) = 1 then (if 7 < (bt304.1.length : Int) then (if (rd bt304.1 7) = 2 then (if 28 < (bt304.1.length : Int) then (if (rd bt304.1 28) = 7 then (if 236 < (bt304.1.length : Int) then (if (rd bt304.1 236) = 99 then (if 240 < (bt304.1.length : Int) then (some ((rd bt304.1 240) == 53)) else (none)) else (some false)) else (none)) else (some false)) else (none)) else (some false)) else (none)) else (some false)) else (none)) else (some false)) else (some false))) = some r := by first | (rw [hy301]; with_reducible exact H) | (have H2_ := (Option.bind_some _ _).symm.trans H; rw [hy301]; with_reducible exact H2_) | (have H2_ := (Option.bind_some _ _).symm.trans H; with_reducible exact H2_) | with_reducible exact H | (rw [hy301]; exact H) | exact H
 have Ny301 := Aside0.mk hy301
 clear hy301
 replace H := Option.bind_eq_some_iff.mp H
 obtain ⟨⟨t304, t307⟩, A10, H⟩ := H
 replace H : (if t307 = 0 then (if (t304.length : Int) = 244 then (if 6 < (t304.length : Int) then (if (rd t304 6) = 1 then (if 7 < (t304.length : Int) then (if (rd t304 7) = 2 then (if 28 < (t304.length : Int) then (if (rd t304 28) = 7 then (if 236 < (t304.length : Int) then (if (rd t304 236) = 99 then (if 240 < (t304.length : Int) then (some ((rd t304 240) == 53)) else (none)) else (some false)) else (none)) else (some false)) else (none)) else (some false)) else (none)) else (some false)) else (none)) else (some false)) else (some false)) = some r := H
 have A1 := Aside0.mk A10
 clear A10
 by_cases c2 : t307 = 0
 ·rw [if_pos c2] at H
  have c2b0 : (t307 == 0) = true := beq_iff_eq.mpr c2
  have c2b1 : (t307 != 0) = false := bne_eq_false_iff_eq.mpr c2
  clear c2
  by_cases c3 : (t304.length : Int) = 244
  ·rw [if_pos c3] at H
   have c3b0 : ((t304.length : Int) == 244) = true := beq_iff_eq.mpr c3
   have c3b1 : ((t304.length : Int) != 244) = false := bne_eq_false_iff_eq.mpr c3
   clear c3
   by_cases c4 : 6 < (t304.length : Int)
   ·rw [if_pos c4] at H
    have c4b0 : decide (6 < (t304.length : Int)) = true := decide_eq_true c4
    have c4b1 : decide (6 < t304.length) = true := decide_eq_true (by omega)
    clear c4
    by_cases c5 : (rd t304 6) = 1
    ·rw [if_pos c5] at H
     have c5b0 : ((rd t304 6) == 1) = true := beq_iff_eq.mpr c5
     have c5b1 : ((rd t304 6) != 1) = false := bne_eq_false_iff_eq.mpr c5
     clear c5
     by_cases c6 : 7 < (t304.length : Int)
     ·rw [if_pos c6] at H
      have c6b0 : decide (7 < (t304.length : Int)) = true := decide_eq_true c6
      have c6b1 : decide (7 < t304.length) = true := decide_eq_true (by omega)
      clear c6
      by_cases c7 : (rd t304 7) = 2
      ·rw [if_pos c7] at H
       have c7b0 : ((rd t304 7) == 2) = true := beq_iff_eq.mpr c7
       have c7b1 : ((rd t304 7) != 2) = false := bne_eq_false_iff_eq.mpr c7
       clear c7
       by_cases c8 : 28 < (t304.length : Int)
       ·rw [if_pos c8] at H
        have c8b0 : decide (28 < (t304.length : Int)) = true := decide_eq_true c8
        have c8b1 : decide (28 < t304.length) = true := decide_eq_true (by omega)
        clear c8
        by_cases c9 : (rd t304 28) = 7
        ·rw [if_pos c9] at H
         have c9b0 : ((rd t304 28) == 7) = true := beq_iff_eq.mpr c9
         have c9b1 : ((rd t304 28) != 7) = false := bne_eq_false_iff_eq.mpr c9
         clear c9
         by_cases c10 : 236 < (t304.length : Int)
         ·rw [if_pos c10] at H
          have c10b0 : decide (236 < (t304.length : Int)) = true := decide_eq_true c10
          have c10b1 : decide (236 < t304.length) = true := decide_eq_true (by omega)
          clear c10
          by_cases c11 : (rd t304 236) = 99
          ·rw [if_pos c11] at H
           have c11b0 : ((rd t304 236) == 99) = true := beq_iff_eq.mpr c11
           have c11b1 : ((rd t304 236) != 99) = false := bne_eq_false_iff_eq.mpr c11
           clear c11
           by_cases c12 : 240 < (t304.length : Int)
           ·rw [if_pos c12] at H
            have c12b0 : decide (240 < (t304.length : Int)) = true := decide_eq_true c12
            have c12b1 : decide (240 < t304.length) = true := decide_eq_true (by omega)
            clear c12
            obtain rfl := Option.some.inj H
            go_enter Tryd.func5, Tryd.ntmps5
            go_wp2_with (first | ((with_reducible refine gate_dst (N := 4) rfl ?_); (try (refine gate_guard (by rfl) ?_; dsimp only)); refine Kd.R_lit (Kd.int .u8) _ 5 ?hg_1 (N := 4) ?hd_1 (xs := ([7] : List Int)) (inner := [.int .u8 7]) (ok := fun _ => True) (okp := fun _ => True) ?hr_1 ?hp_1 (fun _ hk => hk) trivial (Below.refl _ _) (Nat.le_refl _) (by simp) ?_; (case hd_1 => rfl); (case hg_1 => rfl); (case hr_1 => first | (go_simp; done) | (go_simp; rfl)); (case hp_1 => exact (Reps.one (show Kd.M (Kd.int .u8) _ _ _ 7 [.int .u8 7] from rfl) (Reps.none _ _))); intro v296 w13 ho14 hb hg_ hnew_; clear hg_ hnew_; (first | rw [← Ny295.out] at ho14 | (simp only [Int.reduceToNat] at ho14; rw [← Ny295.out] at ho14)); have n0_ := Aside0.mk (Kd.R_lower ho14 (below_size (by repeat (first | (with_reducible first | exact HB.out | apply below_alloc | apply pw_below_drewN | apply below_drew1) | exact HB.out)))); have n1_ := Aside0.mk (below_step (by repeat (first | (with_reducible first | exact HB.out | apply below_alloc | apply pw_below_drewN | apply below_drew1) | exact HB.out)) hb); clear HB; have HO297 := n0_; have HB := n1_; clear n0_ n1_; clear hb ho14) | ((with_reducible refine gate_dst (N := 5) rfl ?_); (try (refine gate_guard (by rfl) ?_; dsimp only)); refine Kd.R_lit (Kd.int .u8) _ 5 ?hg_2 (N := 5) ?hd_2 (xs := ([3] : List Int)) (inner := [.int .u8 3]) (ok := fun _ => True) (okp := fun _ => True) ?hr_2 ?hp_2 (fun _ hk => hk) trivial (Below.refl _ _) (Nat.le_refl _) (by simp) ?_; (case hd_2 => rfl); (case hg_2 => rfl); (case hr_2 => first | (go_simp; done) | (go_simp; rfl)); (case hp_2 => exact (Reps.one (show Kd.M (Kd.int .u8) _ _ _ 3 [.int .u8 3] from rfl) (Reps.none _ _))); intro v299 w15 ho16 hb hg_ hnew_; clear hg_ hnew_; (first | rw [← Ny298.out] at ho16 | (simp only [Int.reduceToNat] at ho16; rw [← Ny298.out] at ho16)); have n0_ := Aside0.mk (Kd.R_elder' (by (with_reducible repeat (first | apply Kd.R_alloc | apply Kd.R_drewN | apply Kd.R_drew)); exact HO297.out) (Kd.R_base ho16) hb); have n1_ := Aside0.mk (Kd.R_lower (Kd.R_new' ho16 (Kd.R_lt (by (with_reducible repeat (first | apply Kd.R_alloc | apply Kd.R_drewN | apply Kd.R_drew)); exact HO297.out))) (below_size (by repeat (first | (with_reducible first | exact HB.out | apply below_alloc | apply pw_below_drewN | apply below_drew1) | exact HB.out)))); have n2_ := Aside0.mk (below_step (by repeat (first | (with_reducible first | exact HB.out | apply below_alloc | apply pw_below_drewN | apply below_drew1) | exact HB.out)) hb); clear HO297; clear HB; have HO297 := n0_; have HO300 := n1_; have HB := n2_; clear n0_ n1_ n2_; clear hb ho16; obtain ⟨Ao17, co17, eo17⟩ := Kd.R_slice HO300.out; subst eo17) | ((with_reducible refine gate_dst (N := 7) rfl ?_); (try (refine gate_guard (by rfl) ?_; dsimp only)); refine Kd.N_lit k39 _ 39 ?hg_3 (N' := 7) ?hd_3 (xs := ([(⟨53, y298⟩ : S39)] : List (S39))) (inner := [.int .i64 53, .slice Ao17 y298.length co17]) (ok := (fun k_ => some k_ ≠ (v296 : Value).ownBlock)) (okp := (fun k_ => some k_ ≠ (v296 : Value).ownBlock)) ?hr_3 ?hp_3 (fun _ hk => hk) ((show ∀ k_, w15.heap.size ≤ k_ → (fun k_ => some k_ ≠ (v296 : Value).ownBlock) k_ from fun k_ hk => Kd.fresh' (Kd.R_lt (by (with_reducible repeat (first | apply Kd.R_alloc | apply Kd.R_drewN | apply Kd.R_drew)); exact HO297.out)) k_ hk) _ (Nat.le_refl _)) (Below.refl _ _) (Nat.le_refl _) (by simp) ?_; (case hd_3 => rfl); (case hg_3 => rfl); (case hr_3 => first | (go_simp; done) | (go_simp; rfl)); (case hp_3 => exact (Reps.c2 (show Kd.FK k39 _ _ (⟨53, y298⟩ : S39) [.int .i64 53, .slice Ao17 y298.length co17] from (k39_mkF _ _ (⟨53, y298⟩ : S39) (Kd.R_reads' (Kd.R_mono (ok' := (fun k_ => some k_ ≠ (v296 : Value).ownBlock)) (HO300.out) (fun k_ hk => hk.2))).2.1 (Kd.R_F (Kd.R_mono (ok' := (fun k_ => some k_ ≠ (v296 : Value).ownBlock)) (HO300.out) (fun k_ hk => hk.2))))) (Reps.none _ _))); intro v302 w18 ho19 hb hg_ hnew_; clear hg_ hnew_; (first | rw [← Ny301.out] at ho19 | (simp only [Int.reduceToNat] at ho19; rw [← Ny301.out] at ho19)); have n0_ := Aside0.mk (Kd.R_below (by (with_reducible repeat (first | apply Kd.R_alloc | apply Kd.R_drewN | apply Kd.R_drew)); exact HO297.out) hb); have n1_ := Aside0.mk (Kd.N_lower ho19 (below_size (by repeat (first | (with_reducible first | exact HB.out | apply below_alloc | apply pw_below_drewN | apply below_drew1) | exact HB.out)))); have n2_ := Aside0.mk (below_step (by repeat (first | (with_reducible first | exact HB.out | apply below_alloc | apply pw_below_drewN | apply below_drew1) | exact HB.out)) hb); clear HO297; clear HB; clear HO300; have HO297 := n0_; have HO303 := n1_; have HB := n2_; clear n0_ n1_ n2_; clear hb ho19; obtain ⟨Ao20, co20, eo20⟩ := Kd.N_slice HO303.out; subst eo20; obtain ⟨Ao21, co21, eo21⟩ := Kd.R_slice HO297.out; subst eo21) | ((with_reducible refine gate_callee (f := 10) rfl ?_); refine goesL_ (some 9) rfl rfl Tryd.func10 (by kernel_rfl) rfl #[.agg #[.int .i64 1, .int .u32 258, .int .i64 0, .int .i64 0, .int .u32 0, .int .u32 0, .int .u32 0, .int .u32 0, .slice Ao21 y295.length co21, .slice Ao20 y301.length co20]] rfl (by (try simp only [List.map_toArray, List.map_cons, List.map_nil]); first | done | rfl | (simp only [List.length_drop, List.length_take]; rfl)) ?_; (with_reducible refine (packet_Encode.calls k 1 258 0 0 0 0 0 0 _ _ y295 _ _ y301 t304 t307 _ ?side1_4 ?side2_4 ?side3_4 ?side4_4 A1.out).mono ?_); (case side1_4 => repeat (first | exact (Kd.R_reads' HO297.out).2.2 | (with_reducible refine Kd.C_alloc ?_ _) | (with_reducible refine Kd.C_drewN ?_ _) | (with_reducible refine Kd.C_drew ?_))); (case side2_4 => exact (Kd.R_reads' HO297.out).2.1); (case side3_4 => repeat (first | exact (Kd.N_reads' HO303.out).2.2 | (with_reducible refine Kd.C_alloc ?_ _) | (with_reducible refine Kd.C_drewN ?_ _) | (with_reducible refine Kd.C_drew ?_))); (case side4_4 => exact (Kd.N_reads' HO303.out).2.1); rintro e w22 ⟨v305, rfl, ho0, hb⟩; refine ⟨_, rfl, ?_⟩; have n0_ := Aside0.mk (Kd.R_elder' (by (with_reducible repeat (first | apply Kd.R_alloc | apply Kd.R_drewN | apply Kd.R_drew)); exact HO297.out) (Kd.R_base ho0) hb); have n1_ := Aside0.mk (Kd.N_elder' (by (with_reducible repeat (first | apply Kd.N_alloc | apply Kd.N_drewN | apply Kd.N_drew)); exact HO303.out) (Kd.R_base ho0) hb); have n2_ := Aside0.mk (Kd.R_lower (Kd.R_new' ho0 (Kd.R_lt (by (with_reducible repeat (first | apply Kd.R_alloc | apply Kd.R_drewN | apply Kd.R_drew)); exact HO297.out))) (below_size (by repeat (first | (with_reducible first | exact HB.out | apply below_alloc | apply pw_below_drewN | apply below_drew1) | exact HB.out)))); have n3_ := Aside0.mk (below_step (by repeat (first | (with_reducible first | exact HB.out | apply below_alloc | apply pw_below_drewN | apply below_drew1) | exact HB.out)) hb); clear HO297; clear HO303; clear HB; have HO297 := n0_; have HO303 := n1_; have HO306 := n2_; have HB := n3_; clear n0_ n1_ n2_ n3_; (try clear hb); (try clear hb2); (try clear hk); (try clear hi); (try clear ho0); obtain ⟨Ao23, co23, eo23⟩ := Kd.R_slice HO306.out; subst eo23; have p308 : 0 ≤ (6 : Int) := (by omega); have q308 : 6 < (t304.length : Int) := of_decide_eq_true (by first | (with_reducible assumption) | assumption); obtain ⟨ad308, e308, hx308_0⟩ := Kd.at_int (Kd.R_reads' HO306.out).2.2 6 p308 q308; cases e308; (try simp only [show (6 : Int).toNat = 6 from rfl, Nat.reduceMul, Nat.reduceEqDiff, Go.Addr.add, ↓reduceIte] at hx308_0); have qi308 : (6 < t304.length) = True := eq_true (by omega); (try rw [show ((6 : Int)).toNat = 6 from rfl] at hx308_0); replace p308 := eq_true p308; replace q308 := eq_true q308; have p309 : 0 ≤ (7 : Int) := (by omega); have q309 : 7 < (t304.length : Int) := of_decide_eq_true (by first | (with_reducible assumption) | assumption); obtain ⟨ad309, e309, hx309_0⟩ := Kd.at_int (Kd.R_reads' HO306.out).2.2 7 p309 q309; obtain rfl : ad308 = ad309 := (by injection e309); (try simp only [show (7 : Int).toNat = 7 from rfl, Nat.reduceMul, Nat.reduceEqDiff, Go.Addr.add, ↓reduceIte] at hx309_0); have qi309 : (7 < t304.length) = True := eq_true (by omega); (try rw [show ((7 : Int)).toNat = 7 from rfl] at hx309_0); replace p309 := eq_true p309; replace q309 := eq_true q309; have p310 : 0 ≤ (28 : Int) := (by omega); have q310 : 28 < (t304.length : Int) := of_decide_eq_true (by first | (with_reducible assumption) | assumption); obtain ⟨ad310, e310, hx310_0⟩ := Kd.at_int (Kd.R_reads' HO306.out).2.2 28 p310 q310; obtain rfl : ad308 = ad310 := (by injection e310); (try simp only [show (28 : Int).toNat = 28 from rfl, Nat.reduceMul, Nat.reduceEqDiff, Go.Addr.add, ↓reduceIte] at hx310_0); have qi310 : (28 < t304.length) = True := eq_true (by omega); (try rw [show ((28 : Int)).toNat = 28 from rfl] at hx310_0); replace p310 := eq_true p310; replace q310 := eq_true q310; have p311 : 0 ≤ (236 : Int) := (by omega); have q311 : 236 < (t304.length : Int) := of_decide_eq_true (by first | (with_reducible assumption) | assumption); obtain ⟨ad311, e311, hx311_0⟩ := Kd.at_int (Kd.R_reads' HO306.out).2.2 236 p311 q311; obtain rfl : ad308 = ad311 := (by injection e311); (try simp only [show (236 : Int).toNat = 236 from rfl, Nat.reduceMul, Nat.reduceEqDiff, Go.Addr.add, ↓reduceIte] at hx311_0); have qi311 : (236 < t304.length) = True := eq_true (by omega); (try rw [show ((236 : Int)).toNat = 236 from rfl] at hx311_0); replace p311 := eq_true p311; replace q311 := eq_true q311; have p312 : 0 ≤ (240 : Int) := (by omega); have q312 : 240 < (t304.length : Int) := of_decide_eq_true (by first | (with_reducible assumption) | assumption); obtain ⟨ad312, e312, hx312_0⟩ := Kd.at_int (Kd.R_reads' HO306.out).2.2 240 p312 q312; obtain rfl : ad308 = ad312 := (by injection e312); (try simp only [show (240 : Int).toNat = 240 from rfl, Nat.reduceMul, Nat.reduceEqDiff, Go.Addr.add, ↓reduceIte] at hx312_0); have qi312 : (240 < t304.length) = True := eq_true (by omega); (try rw [show ((240 : Int)).toNat = 240 from rfl] at hx312_0); replace p312 := eq_true p312; replace q312 := eq_true q312))
            go_ret
            exact ⟨by first | rfl | (simp [errW_none, errW_some] <;> rfl) | (simp [*, errW_none, errW_some] <;> rfl), by repeat (first | (with_reducible first | exact HB.out | apply below_alloc | apply pw_below_drewN | apply below_drew1) | exact HB.out)⟩
           ·rw [if_neg c12] at H
            exact absurd H (by simp)
          ·rw [if_neg c11] at H
           have c11b0 : ((rd t304 236) == 99) = false := beq_eq_false_iff_ne.mpr c11
           have c11b1 : ((rd t304 236) != 99) = true := bne_iff_ne.mpr c11
           obtain rfl := Option.some.inj H
           go_enter Tryd.func5, Tryd.ntmps5
           go_wp2_with (first | ((with_reducible refine gate_dst (N := 4) rfl ?_); (try (refine gate_guard (by rfl) ?_; dsimp only)); refine Kd.R_lit (Kd.int .u8) _ 5 ?hg_5 (N := 4) ?hd_5 (xs := ([7] : List Int)) (inner := [.int .u8 7]) (ok := fun _ => True) (okp := fun _ => True) ?hr_5 ?hp_5 (fun _ hk => hk) trivial (Below.refl _ _) (Nat.le_refl _) (by simp) ?_; (case hd_5 => rfl); (case hg_5 => rfl); (case hr_5 => first | (go_simp; done) | (go_simp; rfl)); (case hp_5 => exact (Reps.one (show Kd.M (Kd.int .u8) _ _ _ 7 [.int .u8 7] from rfl) (Reps.none _ _))); intro v296 w24 ho25 hb hg_ hnew_; clear hg_ hnew_; (first | rw [← Ny295.out] at ho25 | (simp only [Int.reduceToNat] at ho25; rw [← Ny295.out] at ho25)); have n0_ := Aside0.mk (Kd.R_lower ho25 (below_size (by repeat (first | (with_reducible first | exact HB.out | apply below_alloc | apply pw_below_drewN | apply below_drew1) | exact HB.out)))); have n1_ := Aside0.mk (below_step (by repeat (first | (with_reducible first | exact HB.out | apply below_alloc | apply pw_below_drewN | apply below_drew1) | exact HB.out)) hb); clear HB; have HO297 := n0_; have HB := n1_; clear n0_ n1_; clear hb ho25) | ((with_reducible refine gate_dst (N := 5) rfl ?_); (try (refine gate_guard (by rfl) ?_; dsimp only)); refine Kd.R_lit (Kd.int .u8) _ 5 ?hg_6 (N := 5) ?hd_6 (xs := ([3] : List Int)) (inner := [.int .u8 3]) (ok := fun _ => True) (okp := fun _ => True) ?hr_6 ?hp_6 (fun _ hk => hk) trivial (Below.refl _ _) (Nat.le_refl _) (by simp) ?_; (case hd_6 => rfl); (case hg_6 => rfl); (case hr_6 => first | (go_simp; done) | (go_simp; rfl)); (case hp_6 => exact (Reps.one (show Kd.M (Kd.int .u8) _ _ _ 3 [.int .u8 3] from rfl) (Reps.none _ _))); intro v299 w26 ho27 hb hg_ hnew_; clear hg_ hnew_; (first | rw [← Ny298.out] at ho27 | (simp only [Int.reduceToNat] at ho27; rw [← Ny298.out] at ho27)); have n0_ := Aside0.mk (Kd.R_elder' (by (with_reducible repeat (first | apply Kd.R_alloc | apply Kd.R_drewN | apply Kd.R_drew)); exact HO297.out) (Kd.R_base ho27) hb); have n1_ := Aside0.mk (Kd.R_lower (Kd.R_new' ho27 (Kd.R_lt (by (with_reducible repeat (first | apply Kd.R_alloc | apply Kd.R_drewN | apply Kd.R_drew)); exact HO297.out))) (below_size (by repeat (first | (with_reducible first | exact HB.out | apply below_alloc | apply pw_below_drewN | apply below_drew1) | exact HB.out)))); have n2_ := Aside0.mk (below_step (by repeat (first | (with_reducible first | exact HB.out | apply below_alloc | apply pw_below_drewN | apply below_drew1) | exact HB.out)) hb); clear HO297; clear HB; have HO297 := n0_; have HO300 := n1_; have HB := n2_; clear n0_ n1_ n2_; clear hb ho27; obtain ⟨Ao28, co28, eo28⟩ := Kd.R_slice HO300.out; subst eo28) | ((with_reducible refine gate_dst (N := 7) rfl ?_); (try (refine gate_guard (by rfl) ?_; dsimp only)); refine Kd.N_lit k39 _ 39 ?hg_7 (N' := 7) ?hd_7 (xs := ([(⟨53, y298⟩ : S39)] : List (S39))) (inner := [.int .i64 53, .slice Ao28 y298.length co28]) (ok := (fun k_ => some k_ ≠ (v296 : Value).ownBlock)) (okp := (fun k_ => some k_ ≠ (v296 : Value).ownBlock)) ?hr_7 ?hp_7 (fun _ hk => hk) ((show ∀ k_, w26.heap.size ≤ k_ → (fun k_ => some k_ ≠ (v296 : Value).ownBlock) k_ from fun k_ hk => Kd.fresh' (Kd.R_lt (by (with_reducible repeat (first | apply Kd.R_alloc | apply Kd.R_drewN | apply Kd.R_drew)); exact HO297.out)) k_ hk) _ (Nat.le_refl _)) (Below.refl _ _) (Nat.le_refl _) (by simp) ?_; (case hd_7 => rfl); (case hg_7 => rfl); (case hr_7 => first | (go_simp; done) | (go_simp; rfl)); (case hp_7 => exact (Reps.c2 (show Kd.FK k39 _ _ (⟨53, y298⟩ : S39) [.int .i64 53, .slice Ao28 y298.length co28] from (k39_mkF _ _ (⟨53, y298⟩ : S39) (Kd.R_reads' (Kd.R_mono (ok' := (fun k_ => some k_ ≠ (v296 : Value).ownBlock)) (HO300.out) (fun k_ hk => hk.2))).2.1 (Kd.R_F (Kd.R_mono (ok' := (fun k_ => some k_ ≠ (v296 : Value).ownBlock)) (HO300.out) (fun k_ hk => hk.2))))) (Reps.none _ _))); intro v302 w29 ho30 hb hg_ hnew_; clear hg_ hnew_; (first | rw [← Ny301.out] at ho30 | (simp only [Int.reduceToNat] at ho30; rw [← Ny301.out] at ho30)); have n0_ := Aside0.mk (Kd.R_below (by (with_reducible repeat (first | apply Kd.R_alloc | apply Kd.R_drewN | apply Kd.R_drew)); exact HO297.out) hb); have n1_ := Aside0.mk (Kd.N_lower ho30 (below_size (by repeat (first | (with_reducible first | exact HB.out | apply below_alloc | apply pw_below_drewN | apply below_drew1) | exact HB.out)))); have n2_ := Aside0.mk (below_step (by repeat (first | (with_reducible first | exact HB.out | apply below_alloc | apply pw_below_drewN | apply below_drew1) | exact HB.out)) hb); clear HO297; clear HB; clear HO300; have HO297 := n0_; have HO303 := n1_; have HB := n2_; clear n0_ n1_ n2_; clear hb ho30; obtain ⟨Ao31, co31, eo31⟩ := Kd.N_slice HO303.out; subst eo31; obtain ⟨Ao32, co32, eo32⟩ := Kd.R_slice HO297.out; subst eo32) | ((with_reducible refine gate_callee (f := 10) rfl ?_); refine goesL_ (some 9) rfl rfl Tryd.func10 (by kernel_rfl) rfl #[.agg #[.int .i64 1, .int .u32 258, .int .i64 0, .int .i64 0, .int .u32 0, .int .u32 0, .int .u32 0, .int .u32 0, .slice Ao32 y295.length co32, .slice Ao31 y301.length co31]] rfl (by (try simp only [List.map_toArray, List.map_cons, List.map_nil]); first | done | rfl | (simp only [List.length_drop, List.length_take]; rfl)) ?_; (with_reducible refine (packet_Encode.calls k 1 258 0 0 0 0 0 0 _ _ y295 _ _ y301 t304 t307 _ ?side1_8 ?side2_8 ?side3_8 ?side4_8 A1.out).mono ?_); (case side1_8 => repeat (first | exact (Kd.R_reads' HO297.out).2.2 | (with_reducible refine Kd.C_alloc ?_ _) | (with_reducible refine Kd.C_drewN ?_ _) | (with_reducible refine Kd.C_drew ?_))); (case side2_8 => exact (Kd.R_reads' HO297.out).2.1); (case side3_8 => repeat (first | exact (Kd.N_reads' HO303.out).2.2 | (with_reducible refine Kd.C_alloc ?_ _) | (with_reducible refine Kd.C_drewN ?_ _) | (with_reducible refine Kd.C_drew ?_))); (case side4_8 => exact (Kd.N_reads' HO303.out).2.1); rintro e w33 ⟨v305, rfl, ho0, hb⟩; refine ⟨_, rfl, ?_⟩; have n0_ := Aside0.mk (Kd.R_elder' (by (with_reducible repeat (first | apply Kd.R_alloc | apply Kd.R_drewN | apply Kd.R_drew)); exact HO297.out) (Kd.R_base ho0) hb); have n1_ := Aside0.mk (Kd.N_elder' (by (with_reducible repeat (first | apply Kd.N_alloc | apply Kd.N_drewN | apply Kd.N_drew)); exact HO303.out) (Kd.R_base ho0) hb); have n2_ := Aside0.mk (Kd.R_lower (Kd.R_new' ho0 (Kd.R_lt (by (with_reducible repeat (first | apply Kd.R_alloc | apply Kd.R_drewN | apply Kd.R_drew)); exact HO297.out))) (below_size (by repeat (first | (with_reducible first | exact HB.out | apply below_alloc | apply pw_below_drewN | apply below_drew1) | exact HB.out)))); have n3_ := Aside0.mk (below_step (by repeat (first | (with_reducible first | exact HB.out | apply below_alloc | apply pw_below_drewN | apply below_drew1) | exact HB.out)) hb); clear HO297; clear HO303; clear HB; have HO297 := n0_; have HO303 := n1_; have HO306 := n2_; have HB := n3_; clear n0_ n1_ n2_ n3_; (try clear hb); (try clear hb2); (try clear hk); (try clear hi); (try clear ho0); obtain ⟨Ao34, co34, eo34⟩ := Kd.R_slice HO306.out; subst eo34; have p308 : 0 ≤ (6 : Int) := (by omega); have q308 : 6 < (t304.length : Int) := of_decide_eq_true (by first | (with_reducible assumption) | assumption); obtain ⟨ad308, e308, hx308_0⟩ := Kd.at_int (Kd.R_reads' HO306.out).2.2 6 p308 q308; cases e308; (try simp only [show (6 : Int).toNat = 6 from rfl, Nat.reduceMul, Nat.reduceEqDiff, Go.Addr.add, ↓reduceIte] at hx308_0); have qi308 : (6 < t304.length) = True := eq_true (by omega); (try rw [show ((6 : Int)).toNat = 6 from rfl] at hx308_0); replace p308 := eq_true p308; replace q308 := eq_true q308; have p309 : 0 ≤ (7 : Int) := (by omega); have q309 : 7 < (t304.length : Int) := of_decide_eq_true (by first | (with_reducible assumption) | assumption); obtain ⟨ad309, e309, hx309_0⟩ := Kd.at_int (Kd.R_reads' HO306.out).2.2 7 p309 q309; obtain rfl : ad308 = ad309 := (by injection e309); (try simp only [show (7 : Int).toNat = 7 from rfl, Nat.reduceMul, Nat.reduceEqDiff, Go.Addr.add, ↓reduceIte] at hx309_0); have qi309 : (7 < t304.length) = True := eq_true (by omega); (try rw [show ((7 : Int)).toNat = 7 from rfl] at hx309_0); replace p309 := eq_true p309; replace q309 := eq_true q309; have p310 : 0 ≤ (28 : Int) := (by omega); have q310 : 28 < (t304.length : Int) := of_decide_eq_true (by first | (with_reducible assumption) | assumption); obtain ⟨ad310, e310, hx310_0⟩ := Kd.at_int (Kd.R_reads' HO306.out).2.2 28 p310 q310; obtain rfl : ad308 = ad310 := (by injection e310); (try simp only [show (28 : Int).toNat = 28 from rfl, Nat.reduceMul, Nat.reduceEqDiff, Go.Addr.add, ↓reduceIte] at hx310_0); have qi310 : (28 < t304.length) = True := eq_true (by omega); (try rw [show ((28 : Int)).toNat = 28 from rfl] at hx310_0); replace p310 := eq_true p310; replace q310 := eq_true q310; have p311 : 0 ≤ (236 : Int) := (by omega); have q311 : 236 < (t304.length : Int) := of_decide_eq_true (by first | (with_reducible assumption) | assumption); obtain ⟨ad311, e311, hx311_0⟩ := Kd.at_int (Kd.R_reads' HO306.out).2.2 236 p311 q311; obtain rfl : ad308 = ad311 := (by injection e311); (try simp only [show (236 : Int).toNat = 236 from rfl, Nat.reduceMul, Nat.reduceEqDiff, Go.Addr.add, ↓reduceIte] at hx311_0); have qi311 : (236 < t304.length) = True := eq_true (by omega); (try rw [show ((236 : Int)).toNat = 236 from rfl] at hx311_0); replace p311 := eq_true p311; replace q311 := eq_true q311))
           go_ret
           exact ⟨by first | rfl | (simp [errW_none, errW_some] <;> rfl) | (simp [*, errW_none, errW_some] <;> rfl), by repeat (first | (with_reducible first | exact HB.out | apply below_alloc | apply pw_below_drewN | apply below_drew1) | exact HB.out)⟩
         ·rw [if_neg c10] at H
          exact absurd H (by simp)
        ·rw [if_neg c9] at H
         have c9b0 : ((rd t304 28) == 7) = false := beq_eq_false_iff_ne.mpr c9
         have c9b1 : ((rd t304 28) != 7) = true := bne_iff_ne.mpr c9
         obtain rfl := Option.some.inj H
         go_enter Tryd.func5, Tryd.ntmps5
         go_wp2_with (first | ((with_reducible refine gate_dst (N := 4) rfl ?_); (try (refine gate_guard (by rfl) ?_; dsimp only)); refine Kd.R_lit (Kd.int .u8) _ 5 ?hg_9 (N := 4) ?hd_9 (xs := ([7] : List Int)) (inner := [.int .u8 7]) (ok := fun _ => True) (okp := fun _ => True) ?hr_9 ?hp_9 (fun _ hk => hk) trivial (Below.refl _ _) (Nat.le_refl _) (by simp) ?_; (case hd_9 => rfl); (case hg_9 => rfl); (case hr_9 => first | (go_simp; done) | (go_simp; rfl)); (case hp_9 => exact (Reps.one (show Kd.M (Kd.int .u8) _ _ _ 7 [.int .u8 7] from rfl) (Reps.none _ _))); intro v296 w35 ho36 hb hg_ hnew_; clear hg_ hnew_; (first | rw [← Ny295.out] at ho36 | (simp only [Int.reduceToNat] at ho36; rw [← Ny295.out] at ho36)); have n0_ := Aside0.mk (Kd.R_lower ho36 (below_size (by repeat (first | (with_reducible first | exact HB.out | apply below_alloc | apply pw_below_drewN | apply below_drew1) | exact HB.out)))); have n1_ := Aside0.mk (below_step (by repeat (first | (with_reducible first | exact HB.out | apply below_alloc | apply pw_below_drewN | apply below_drew1) | exact HB.out)) hb); clear HB; have HO297 := n0_; have HB := n1_; clear n0_ n1_; clear hb ho36) | ((with_reducible refine gate_dst (N := 5) rfl ?_); (try (refine gate_guard (by rfl) ?_; dsimp only)); refine Kd.R_lit (Kd.int .u8) _ 5 ?hg_10 (N := 5) ?hd_10 (xs := ([3] : List Int)) (inner := [.int .u8 3]) (ok := fun _ => True) (okp := fun _ => True) ?hr_10 ?hp_10 (fun _ hk => hk) trivial (Below.refl _ _) (Nat.le_refl _) (by simp) ?_; (case hd_10 => rfl); (case hg_10 => rfl); (case hr_10 => first | (go_simp; done) | (go_simp; rfl)); (case hp_10 => exact (Reps.one (show Kd.M (Kd.int .u8) _ _ _ 3 [.int .u8 3] from rfl) (Reps.none _ _))); intro v299 w37 ho38 hb hg_ hnew_; clear hg_ hnew_; (first | rw [← Ny298.out] at ho38 | (simp only [Int.reduceToNat] at ho38; rw [← Ny298.out] at ho38)); have n0_ := Aside0.mk (Kd.R_elder' (by (with_reducible repeat (first | apply Kd.R_alloc | apply Kd.R_drewN | apply Kd.R_drew)); exact HO297.out) (Kd.R_base ho38) hb); have n1_ := Aside0.mk (Kd.R_lower (Kd.R_new' ho38 (Kd.R_lt (by (with_reducible repeat (first | apply Kd.R_alloc | apply Kd.R_drewN | apply Kd.R_drew)); exact HO297.out))) (below_size (by repeat (first | (with_reducible first | exact HB.out | apply below_alloc | apply pw_below_drewN | apply below_drew1) | exact HB.out)))); have n2_ := Aside0.mk (below_step (by repeat (first | (with_reducible first | exact HB.out | apply below_alloc | apply pw_below_drewN | apply below_drew1) | exact HB.out)) hb); clear HO297; clear HB; have HO297 := n0_; have HO300 := n1_; have HB := n2_; clear n0_ n1_ n2_; clear hb ho38; obtain ⟨Ao39, co39, eo39⟩ := Kd.R_slice HO300.out; subst eo39) | ((with_reducible refine gate_dst (N := 7) rfl ?_); (try (refine gate_guard (by rfl) ?_; dsimp only)); refine Kd.N_lit k39 _ 39 ?hg_11 (N' := 7) ?hd_11 (xs := ([(⟨53, y298⟩ : S39)] : List (S39))) (inner := [.int .i64 53, .slice Ao39 y298.length co39]) (ok := (fun k_ => some k_ ≠ (v296 : Value).ownBlock)) (okp := (fun k_ => some k_ ≠ (v296 : Value).ownBlock)) ?hr_11 ?hp_11 (fun _ hk => hk) ((show ∀ k_, w37.heap.size ≤ k_ → (fun k_ => some k_ ≠ (v296 : Value).ownBlock) k_ from fun k_ hk => Kd.fresh' (Kd.R_lt (by (with_reducible repeat (first | apply Kd.R_alloc | apply Kd.R_drewN | apply Kd.R_drew)); exact HO297.out)) k_ hk) _ (Nat.le_refl _)) (Below.refl _ _) (Nat.le_refl _) (by simp) ?_; (case hd_11 => rfl); (case hg_11 => rfl); (case hr_11 => first | (go_simp; done) | (go_simp; rfl)); (case hp_11 => exact (Reps.c2 (show Kd.FK k39 _ _ (⟨53, y298⟩ : S39) [.int .i64 53, .slice Ao39 y298.length co39] from (k39_mkF _ _ (⟨53, y298⟩ : S39) (Kd.R_reads' (Kd.R_mono (ok' := (fun k_ => some k_ ≠ (v296 : Value).ownBlock)) (HO300.out) (fun k_ hk => hk.2))).2.1 (Kd.R_F (Kd.R_mono (ok' := (fun k_ => some k_ ≠ (v296 : Value).ownBlock)) (HO300.out) (fun k_ hk => hk.2))))) (Reps.none _ _))); intro v302 w40 ho41 hb hg_ hnew_; clear hg_ hnew_; (first | rw [← Ny301.out] at ho41 | (simp only [Int.reduceToNat] at ho41; rw [← Ny301.out] at ho41)); have n0_ := Aside0.mk (Kd.R_below (by (with_reducible repeat (first | apply Kd.R_alloc | apply Kd.R_drewN | apply Kd.R_drew)); exact HO297.out) hb); have n1_ := Aside0.mk (Kd.N_lower ho41 (below_size (by repeat (first | (with_reducible first | exact HB.out | apply below_alloc | apply pw_below_drewN | apply below_drew1) | exact HB.out)))); have n2_ := Aside0.mk (below_step (by repeat (first | (with_reducible first | exact HB.out | apply below_alloc | apply pw_below_drewN | apply below_drew1) | exact HB.out)) hb); clear HO297; clear HB; clear HO300; have HO297 := n0_; have HO303 := n1_; have HB := n2_; clear n0_ n1_ n2_; clear hb ho41; obtain ⟨Ao42, co42, eo42⟩ := Kd.N_slice HO303.out; subst eo42; obtain ⟨Ao43, co43, eo43⟩ := Kd.R_slice HO297.out; subst eo43) | ((with_reducible refine gate_callee (f := 10) rfl ?_); refine goesL_ (some 9) rfl rfl Tryd.func10 (by kernel_rfl) rfl #[.agg #[.int .i64 1, .int .u32 258, .int .i64 0, .int .i64 0, .int .u32 0, .int .u32 0, .int .u32 0, .int .u32 0, .slice Ao43 y295.length co43, .slice Ao42 y301.length co42]] rfl (by (try simp only [List.map_toArray, List.map_cons, List.map_nil]); first | done | rfl | (simp only [List.length_drop, List.length_take]; rfl)) ?_; (with_reducible refine (packet_Encode.calls k 1 258 0 0 0 0 0 0 _ _ y295 _ _ y301 t304 t307 _ ?side1_12 ?side2_12 ?side3_12 ?side4_12 A1.out).mono ?_); (case side1_12 => repeat (first | exact (Kd.R_reads' HO297.out).2.2 | (with_reducible refine Kd.C_alloc ?_ _) | (with_reducible refine Kd.C_drewN ?_ _) | (with_reducible refine Kd.C_drew ?_))); (case side2_12 => exact (Kd.R_reads' HO297.out).2.1); (case side3_12 => repeat (first | exact (Kd.N_reads' HO303.out).2.2 | (with_reducible refine Kd.C_alloc ?_ _) | (with_reducible refine Kd.C_drewN ?_ _) | (with_reducible refine Kd.C_drew ?_))); (case side4_12 => exact (Kd.N_reads' HO303.out).2.1); rintro e w44 ⟨v305, rfl, ho0, hb⟩; refine ⟨_, rfl, ?_⟩; have n0_ := Aside0.mk (Kd.R_elder' (by (with_reducible repeat (first | apply Kd.R_alloc | apply Kd.R_drewN | apply Kd.R_drew)); exact HO297.out) (Kd.R_base ho0) hb); have n1_ := Aside0.mk (Kd.N_elder' (by (with_reducible repeat (first | apply Kd.N_alloc | apply Kd.N_drewN | apply Kd.N_drew)); exact HO303.out) (Kd.R_base ho0) hb); have n2_ := Aside0.mk (Kd.R_lower (Kd.R_new' ho0 (Kd.R_lt (by (with_reducible repeat (first | apply Kd.R_alloc | apply Kd.R_drewN | apply Kd.R_drew)); exact HO297.out))) (below_size (by repeat (first | (with_reducible first | exact HB.out | apply below_alloc | apply pw_below_drewN | apply below_drew1) | exact HB.out)))); have n3_ := Aside0.mk (below_step (by repeat (first | (with_reducible first | exact HB.out | apply below_alloc | apply pw_below_drewN | apply below_drew1) | exact HB.out)) hb); clear HO297; clear HO303; clear HB; have HO297 := n0_; have HO303 := n1_; have HO306 := n2_; have HB := n3_; clear n0_ n1_ n2_ n3_; (try clear hb); (try clear hb2); (try clear hk); (try clear hi); (try clear ho0); obtain ⟨Ao45, co45, eo45⟩ := Kd.R_slice HO306.out; subst eo45; have p308 : 0 ≤ (6 : Int) := (by omega); have q308 : 6 < (t304.length : Int) := of_decide_eq_true (by first | (with_reducible assumption) | assumption); obtain ⟨ad308, e308, hx308_0⟩ := Kd.at_int (Kd.R_reads' HO306.out).2.2 6 p308 q308; cases e308; (try simp only [show (6 : Int).toNat = 6 from rfl, Nat.reduceMul, Nat.reduceEqDiff, Go.Addr.add, ↓reduceIte] at hx308_0); have qi308 : (6 < t304.length) = True := eq_true (by omega); (try rw [show ((6 : Int)).toNat = 6 from rfl] at hx308_0); replace p308 := eq_true p308; replace q308 := eq_true q308; have p309 : 0 ≤ (7 : Int) := (by omega); have q309 : 7 < (t304.length : Int) := of_decide_eq_true (by first | (with_reducible assumption) | assumption); obtain ⟨ad309, e309, hx309_0⟩ := Kd.at_int (Kd.R_reads' HO306.out).2.2 7 p309 q309; obtain rfl : ad308 = ad309 := (by injection e309); (try simp only [show (7 : Int).toNat = 7 from rfl, Nat.reduceMul, Nat.reduceEqDiff, Go.Addr.add, ↓reduceIte] at hx309_0); have qi309 : (7 < t304.length) = True := eq_true (by omega); (try rw [show ((7 : Int)).toNat = 7 from rfl] at hx309_0); replace p309 := eq_true p309; replace q309 := eq_true q309; have p310 : 0 ≤ (28 : Int) := (by omega); have q310 : 28 < (t304.length : Int) := of_decide_eq_true (by first | (with_reducible assumption) | assumption); obtain ⟨ad310, e310, hx310_0⟩ := Kd.at_int (Kd.R_reads' HO306.out).2.2 28 p310 q310; obtain rfl : ad308 = ad310 := (by injection e310); (try simp only [show (28 : Int).toNat = 28 from rfl, Nat.reduceMul, Nat.reduceEqDiff, Go.Addr.add, ↓reduceIte] at hx310_0); have qi310 : (28 < t304.length) = True := eq_true (by omega); (try rw [show ((28 : Int)).toNat = 28 from rfl] at hx310_0); replace p310 := eq_true p310; replace q310 := eq_true q310))
         go_ret
         exact ⟨by first | rfl | (simp [errW_none, errW_some] <;> rfl) | (simp [*, errW_none, errW_some] <;> rfl), by repeat (first | (with_reducible first | exact HB.out | apply below_alloc | apply pw_below_drewN | apply below_drew1) | exact HB.out)⟩
       ·rw [if_neg c8] at H
        exact absurd H (by simp)
      ·rw [if_neg c7] at H
       have c7b0 : ((rd t304 7) == 2) = false := beq_eq_false_iff_ne.mpr c7
       have c7b1 : ((rd t304 7) != 2) = true := bne_iff_ne.mpr c7
       obtain rfl := Option.some.inj H
       go_enter Tryd.func5, Tryd.ntmps5
       go_wp2_with (first | ((with_reducible refine gate_dst (N := 4) rfl ?_); (try (refine gate_guard (by rfl) ?_; dsimp only)); refine Kd.R_lit (Kd.int .u8) _ 5 ?hg_13 (N := 4) ?hd_13 (xs := ([7] : List Int)) (inner := [.int .u8 7]) (ok := fun _ => True) (okp := fun _ => True) ?hr_13 ?hp_13 (fun _ hk => hk) trivial (Below.refl _ _) (Nat.le_refl _) (by simp) ?_; (case hd_13 => rfl); (case hg_13 => rfl); (case hr_13 => first | (go_simp; done) | (go_simp; rfl)); (case hp_13 => exact (Reps.one (show Kd.M (Kd.int .u8) _ _ _ 7 [.int .u8 7] from rfl) (Reps.none _ _))); intro v296 w46 ho47 hb hg_ hnew_; clear hg_ hnew_; (first | rw [← Ny295.out] at ho47 | (simp only [Int.reduceToNat] at ho47; rw [← Ny295.out] at ho47)); have n0_ := Aside0.mk (Kd.R_lower ho47 (below_size (by repeat (first | (with_reducible first | exact HB.out | apply below_alloc | apply pw_below_drewN | apply below_drew1) | exact HB.out)))); have n1_ := Aside0.mk (below_step (by repeat (first | (with_reducible first | exact HB.out | apply below_alloc | apply pw_below_drewN | apply below_drew1) | exact HB.out)) hb); clear HB; have HO297 := n0_; have HB := n1_; clear n0_ n1_; clear hb ho47) | ((with_reducible refine gate_dst (N := 5) rfl ?_); (try (refine gate_guard (by rfl) ?_; dsimp only)); refine Kd.R_lit (Kd.int .u8) _ 5 ?hg_14 (N := 5) ?hd_14 (xs := ([3] : List Int)) (inner := [.int .u8 3]) (ok := fun _ => True) (okp := fun _ => True) ?hr_14 ?hp_14 (fun _ hk => hk) trivial (Below.refl _ _) (Nat.le_refl _) (by simp) ?_; (case hd_14 => rfl); (case hg_14 => rfl); (case hr_14 => first | (go_simp; done) | (go_simp; rfl)); (case hp_14 => exact (Reps.one (show Kd.M (Kd.int .u8) _ _ _ 3 [.int .u8 3] from rfl) (Reps.none _ _))); intro v299 w48 ho49 hb hg_ hnew_; clear hg_ hnew_; (first | rw [← Ny298.out] at ho49 | (simp only [Int.reduceToNat] at ho49; rw [← Ny298.out] at ho49)); have n0_ := Aside0.mk (Kd.R_elder' (by (with_reducible repeat (first | apply Kd.R_alloc | apply Kd.R_drewN | apply Kd.R_drew)); exact HO297.out) (Kd.R_base ho49) hb); have n1_ := Aside0.mk (Kd.R_lower (Kd.R_new' ho49 (Kd.R_lt (by (with_reducible repeat (first | apply Kd.R_alloc | apply Kd.R_drewN | apply Kd.R_drew)); exact HO297.out))) (below_size (by repeat (first | (with_reducible first | exact HB.out | apply below_alloc | apply pw_below_drewN | apply below_drew1) | exact HB.out)))); have n2_ := Aside0.mk (below_step (by repeat (first | (with_reducible first | exact HB.out | apply below_alloc | apply pw_below_drewN | apply below_drew1) | exact HB.out)) hb); clear HO297; clear HB; have HO297 := n0_; have HO300 := n1_; have HB := n2_; clear n0_ n1_ n2_; clear hb ho49; obtain ⟨Ao50, co50, eo50⟩ := Kd.R_slice HO300.out; subst eo50) | ((with_reducible refine gate_dst (N := 7) rfl ?_); (try (refine gate_guard (by rfl) ?_; dsimp only)); refine Kd.N_lit k39 _ 39 ?hg_15 (N' := 7) ?hd_15 (xs := ([(⟨53, y298⟩ : S39)] : List (S39))) (inner := [.int .i64 53, .slice Ao50 y298.length co50]) (ok := (fun k_ => some k_ ≠ (v296 : Value).ownBlock)) (okp := (fun k_ => some k_ ≠ (v296 : Value).ownBlock)) ?hr_15 ?hp_15 (fun _ hk => hk) ((show ∀ k_, w48.heap.size ≤ k_ → (fun k_ => some k_ ≠ (v296 : Value).ownBlock) k_ from fun k_ hk => Kd.fresh' (Kd.R_lt (by (with_reducible repeat (first | apply Kd.R_alloc | apply Kd.R_drewN | apply Kd.R_drew)); exact HO297.out)) k_ hk) _ (Nat.le_refl _)) (Below.refl _ _) (Nat.le_refl _) (by simp) ?_; (case hd_15 => rfl); (case hg_15 => rfl); (case hr_15 => first | (go_simp; done) | (go_simp; rfl)); (case hp_15 => exact (Reps.c2 (show Kd.FK k39 _ _ (⟨53, y298⟩ : S39) [.int .i64 53, .slice Ao50 y298.length co50] from (k39_mkF _ _ (⟨53, y298⟩ : S39) (Kd.R_reads' (Kd.R_mono (ok' := (fun k_ => some k_ ≠ (v296 : Value).ownBlock)) (HO300.out) (fun k_ hk => hk.2))).2.1 (Kd.R_F (Kd.R_mono (ok' := (fun k_ => some k_ ≠ (v296 : Value).ownBlock)) (HO300.out) (fun k_ hk => hk.2))))) (Reps.none _ _))); intro v302 w51 ho52 hb hg_ hnew_; clear hg_ hnew_; (first | rw [← Ny301.out] at ho52 | (simp only [Int.reduceToNat] at ho52; rw [← Ny301.out] at ho52)); have n0_ := Aside0.mk (Kd.R_below (by (with_reducible repeat (first | apply Kd.R_alloc | apply Kd.R_drewN | apply Kd.R_drew)); exact HO297.out) hb); have n1_ := Aside0.mk (Kd.N_lower ho52 (below_size (by repeat (first | (with_reducible first | exact HB.out | apply below_alloc | apply pw_below_drewN | apply below_drew1) | exact HB.out)))); have n2_ := Aside0.mk (below_step (by repeat (first | (with_reducible first | exact HB.out | apply below_alloc | apply pw_below_drewN | apply below_drew1) | exact HB.out)) hb); clear HO297; clear HB; clear HO300; have HO297 := n0_; have HO303 := n1_; have HB := n2_; clear n0_ n1_ n2_; clear hb ho52; obtain ⟨Ao53, co53, eo53⟩ := Kd.N_slice HO303.out; subst eo53; obtain ⟨Ao54, co54, eo54⟩ := Kd.R_slice HO297.out; subst eo54) | ((with_reducible refine gate_callee (f := 10) rfl ?_); refine goesL_ (some 9) rfl rfl Tryd.func10 (by kernel_rfl) rfl #[.agg #[.int .i64 1, .int .u32 258, .int .i64 0, .int .i64 0, .int .u32 0, .int .u32 0, .int .u32 0, .int .u32 0, .slice Ao54 y295.length co54, .slice Ao53 y301.length co53]] rfl (by (try simp only [List.map_toArray, List.map_cons, List.map_nil]); first | done | rfl | (simp only [List.length_drop, List.length_take]; rfl)) ?_; (with_reducible refine (packet_Encode.calls k 1 258 0 0 0 0 0 0 _ _ y295 _ _ y301 t304 t307 _ ?side1_16 ?side2_16 ?side3_16 ?side4_16 A1.out).mono ?_); (case side1_16 => repeat (first | exact (Kd.R_reads' HO297.out).2.2 | (with_reducible refine Kd.C_alloc ?_ _) | (with_reducible refine Kd.C_drewN ?_ _) | (with_reducible refine Kd.C_drew ?_))); (case side2_16 => exact (Kd.R_reads' HO297.out).2.1); (case side3_16 => repeat (first | exact (Kd.N_reads' HO303.out).2.2 | (with_reducible refine Kd.C_alloc ?_ _) | (with_reducible refine Kd.C_drewN ?_ _) | (with_reducible refine Kd.C_drew ?_))); (case side4_16 => exact (Kd.N_reads' HO303.out).2.1); rintro e w55 ⟨v305, rfl, ho0, hb⟩; refine ⟨_, rfl, ?_⟩; have n0_ := Aside0.mk (Kd.R_elder' (by (with_reducible repeat (first | apply Kd.R_alloc | apply Kd.R_drewN | apply Kd.R_drew)); exact HO297.out) (Kd.R_base ho0) hb); have n1_ := Aside0.mk (Kd.N_elder' (by (with_reducible repeat (first | apply Kd.N_alloc | apply Kd.N_drewN | apply Kd.N_drew)); exact HO303.out) (Kd.R_base ho0) hb); have n2_ := Aside0.mk (Kd.R_lower (Kd.R_new' ho0 (Kd.R_lt (by (with_reducible repeat (first | apply Kd.R_alloc | apply Kd.R_drewN | apply Kd.R_drew)); exact HO297.out))) (below_size (by repeat (first | (with_reducible first | exact HB.out | apply below_alloc | apply pw_below_drewN | apply below_drew1) | exact HB.out)))); have n3_ := Aside0.mk (below_step (by repeat (first | (with_reducible first | exact HB.out | apply below_alloc | apply pw_below_drewN | apply below_drew1) | exact HB.out)) hb); clear HO297; clear HO303; clear HB; have HO297 := n0_; have HO303 := n1_; have HO306 := n2_; have HB := n3_; clear n0_ n1_ n2_ n3_; (try clear hb); (try clear hb2); (try clear hk); (try clear hi); (try clear ho0); obtain ⟨Ao56, co56, eo56⟩ := Kd.R_slice HO306.out; subst eo56; have p308 : 0 ≤ (6 : Int) := (by omega); have q308 : 6 < (t304.length : Int) := of_decide_eq_true (by first | (with_reducible assumption) | assumption); obtain ⟨ad308, e308, hx308_0⟩ := Kd.at_int (Kd.R_reads' HO306.out).2.2 6 p308 q308; cases e308; (try simp only [show (6 : Int).toNat = 6 from rfl, Nat.reduceMul, Nat.reduceEqDiff, Go.Addr.add, ↓reduceIte] at hx308_0); have qi308 : (6 < t304.length) = True := eq_true (by omega); (try rw [show ((6 : Int)).toNat = 6 from rfl] at hx308_0); replace p308 := eq_true p308; replace q308 := eq_true q308; have p309 : 0 ≤ (7 : Int) := (by omega); have q309 : 7 < (t304.length : Int) := of_decide_eq_true (by first | (with_reducible assumption) | assumption); obtain ⟨ad309, e309, hx309_0⟩ := Kd.at_int (Kd.R_reads' HO306.out).2.2 7 p309 q309; obtain rfl : ad308 = ad309 := (by injection e309); (try simp only [show (7 : Int).toNat = 7 from rfl, Nat.reduceMul, Nat.reduceEqDiff, Go.Addr.add, ↓reduceIte] at hx309_0); have qi309 : (7 < t304.length) = True := eq_true (by omega); (try rw [show ((7 : Int)).toNat = 7 from rfl] at hx309_0); replace p309 := eq_true p309; replace q309 := eq_true q309))
       go_ret
       exact ⟨by first | rfl | (simp [errW_none, errW_some] <;> rfl) | (simp [*, errW_none, errW_some] <;> rfl), by repeat (first | (with_reducible first | exact HB.out | apply below_alloc | apply pw_below_drewN | apply below_drew1) | exact HB.out)⟩
     ·rw [if_neg c6] at H
      exact absurd H (by simp)
    ·rw [if_neg c5] at H
     have c5b0 : ((rd t304 6) == 1) = false := beq_eq_false_iff_ne.mpr c5
     have c5b1 : ((rd t304 6) != 1) = true := bne_iff_ne.mpr c5
     obtain rfl := Option.some.inj H
     go_enter Tryd.func5, Tryd.ntmps5
     go_wp2_with (first | ((with_reducible refine gate_dst (N := 4) rfl ?_); (try (refine gate_guard (by rfl) ?_; dsimp only)); refine Kd.R_lit (Kd.int .u8) _ 5 ?hg_17 (N := 4) ?hd_17 (xs := ([7] : List Int)) (inner := [.int .u8 7]) (ok := fun _ => True) (okp := fun _ => True) ?hr_17 ?hp_17 (fun _ hk => hk) trivial (Below.refl _ _) (Nat.le_refl _) (by simp) ?_; (case hd_17 => rfl); (case hg_17 => rfl); (case hr_17 => first | (go_simp; done) | (go_simp; rfl)); (case hp_17 => exact (Reps.one (show Kd.M (Kd.int .u8) _ _ _ 7 [.int .u8 7] from rfl) (Reps.none _ _))); intro v296 w57 ho58 hb hg_ hnew_; clear hg_ hnew_; (first | rw [← Ny295.out] at ho58 | (simp only [Int.reduceToNat] at ho58; rw [← Ny295.out] at ho58)); have n0_ := Aside0.mk (Kd.R_lower ho58 (below_size (by repeat (first | (with_reducible first | exact HB.out | apply below_alloc | apply pw_below_drewN | apply below_drew1) | exact HB.out)))); have n1_ := Aside0.mk (below_step (by repeat (first | (with_reducible first | exact HB.out | apply below_alloc | apply pw_below_drewN | apply below_drew1) | exact HB.out)) hb); clear HB; have HO297 := n0_; have HB := n1_; clear n0_ n1_; clear hb ho58) | ((with_reducible refine gate_dst (N := 5) rfl ?_); (try (refine gate_guard (by rfl) ?_; dsimp only)); refine Kd.R_lit (Kd.int .u8) _ 5 ?hg_18 (N := 5) ?hd_18 (xs := ([3] : List Int)) (inner := [.int .u8 3]) (ok := fun _ => True) (okp := fun _ => True) ?hr_18 ?hp_18 (fun _ hk => hk) trivial (Below.refl _ _) (Nat.le_refl _) (by simp) ?_; (case hd_18 => rfl); (case hg_18 => rfl); (case hr_18 => first | (go_simp; done) | (go_simp; rfl)); (case hp_18 => exact (Reps.one (show Kd.M (Kd.int .u8) _ _ _ 3 [.int .u8 3] from rfl) (Reps.none _ _))); intro v299 w59 ho60 hb hg_ hnew_; clear hg_ hnew_; (first | rw [← Ny298.out] at ho60 | (simp only [Int.reduceToNat] at ho60; rw [← Ny298.out] at ho60)); have n0_ := Aside0.mk (Kd.R_elder' (by (with_reducible repeat (first | apply Kd.R_alloc | apply Kd.R_drewN | apply Kd.R_drew)); exact HO297.out) (Kd.R_base ho60) hb); have n1_ := Aside0.mk (Kd.R_lower (Kd.R_new' ho60 (Kd.R_lt (by (with_reducible repeat (first | apply Kd.R_alloc | apply Kd.R_drewN | apply Kd.R_drew)); exact HO297.out))) (below_size (by repeat (first | (with_reducible first | exact HB.out | apply below_alloc | apply pw_below_drewN | apply below_drew1) | exact HB.out)))); have n2_ := Aside0.mk (below_step (by repeat (first | (with_reducible first | exact HB.out | apply below_alloc | apply pw_below_drewN | apply below_drew1) | exact HB.out)) hb); clear HO297; clear HB; have HO297 := n0_; have HO300 := n1_; have HB := n2_; clear n0_ n1_ n2_; clear hb ho60; obtain ⟨Ao61, co61, eo61⟩ := Kd.R_slice HO300.out; subst eo61) | ((with_reducible refine gate_dst (N := 7) rfl ?_); (try (refine gate_guard (by rfl) ?_; dsimp only)); refine Kd.N_lit k39 _ 39 ?hg_19 (N' := 7) ?hd_19 (xs := ([(⟨53, y298⟩ : S39)] : List (S39))) (inner := [.int .i64 53, .slice Ao61 y298.length co61]) (ok := (fun k_ => some k_ ≠ (v296 : Value).ownBlock)) (okp := (fun k_ => some k_ ≠ (v296 : Value).ownBlock)) ?hr_19 ?hp_19 (fun _ hk => hk) ((show ∀ k_, w59.heap.size ≤ k_ → (fun k_ => some k_ ≠ (v296 : Value).ownBlock) k_ from fun k_ hk => Kd.fresh' (Kd.R_lt (by (with_reducible repeat (first | apply Kd.R_alloc | apply Kd.R_drewN | apply Kd.R_drew)); exact HO297.out)) k_ hk) _ (Nat.le_refl _)) (Below.refl _ _) (Nat.le_refl _) (by simp) ?_; (case hd_19 => rfl); (case hg_19 => rfl); (case hr_19 => first | (go_simp; done) | (go_simp; rfl)); (case hp_19 => exact (Reps.c2 (show Kd.FK k39 _ _ (⟨53, y298⟩ : S39) [.int .i64 53, .slice Ao61 y298.length co61] from (k39_mkF _ _ (⟨53, y298⟩ : S39) (Kd.R_reads' (Kd.R_mono (ok' := (fun k_ => some k_ ≠ (v296 : Value).ownBlock)) (HO300.out) (fun k_ hk => hk.2))).2.1 (Kd.R_F (Kd.R_mono (ok' := (fun k_ => some k_ ≠ (v296 : Value).ownBlock)) (HO300.out) (fun k_ hk => hk.2))))) (Reps.none _ _))); intro v302 w62 ho63 hb hg_ hnew_; clear hg_ hnew_; (first | rw [← Ny301.out] at ho63 | (simp only [Int.reduceToNat] at ho63; rw [← Ny301.out] at ho63)); have n0_ := Aside0.mk (Kd.R_below (by (with_reducible repeat (first | apply Kd.R_alloc | apply Kd.R_drewN | apply Kd.R_drew)); exact HO297.out) hb); have n1_ := Aside0.mk (Kd.N_lower ho63 (below_size (by repeat (first | (with_reducible first | exact HB.out | apply below_alloc | apply pw_below_drewN | apply below_drew1) | exact HB.out)))); have n2_ := Aside0.mk (below_step (by repeat (first | (with_reducible first | exact HB.out | apply below_alloc | apply pw_below_drewN | apply below_drew1) | exact HB.out)) hb); clear HO297; clear HB; clear HO300; have HO297 := n0_; have HO303 := n1_; have HB := n2_; clear n0_ n1_ n2_; clear hb ho63; obtain ⟨Ao64, co64, eo64⟩ := Kd.N_slice HO303.out; subst eo64; obtain ⟨Ao65, co65, eo65⟩ := Kd.R_slice HO297.out; subst eo65) | ((with_reducible refine gate_callee (f := 10) rfl ?_); refine goesL_ (some 9) rfl rfl Tryd.func10 (by kernel_rfl) rfl #[.agg #[.int .i64 1, .int .u32 258, .int .i64 0, .int .i64 0, .int .u32 0, .int .u32 0, .int .u32 0, .int .u32 0, .slice Ao65 y295.length co65, .slice Ao64 y301.length co64]] rfl (by (try simp only [List.map_toArray, List.map_cons, List.map_nil]); first | done | rfl | (simp only [List.length_drop, List.length_take]; rfl)) ?_; (with_reducible refine (packet_Encode.calls k 1 258 0 0 0 0 0 0 _ _ y295 _ _ y301 t304 t307 _ ?side1_20 ?side2_20 ?side3_20 ?side4_20 A1.out).mono ?_); (case side1_20 => repeat (first | exact (Kd.R_reads' HO297.out).2.2 | (with_reducible refine Kd.C_alloc ?_ _) | (with_reducible refine Kd.C_drewN ?_ _) | (with_reducible refine Kd.C_drew ?_))); (case side2_20 => exact (Kd.R_reads' HO297.out).2.1); (case side3_20 => repeat (first | exact (Kd.N_reads' HO303.out).2.2 | (with_reducible refine Kd.C_alloc ?_ _) | (with_reducible refine Kd.C_drewN ?_ _) | (with_reducible refine Kd.C_drew ?_))); (case side4_20 => exact (Kd.N_reads' HO303.out).2.1); rintro e w66 ⟨v305, rfl, ho0, hb⟩; refine ⟨_, rfl, ?_⟩; have n0_ := Aside0.mk (Kd.R_elder' (by (with_reducible repeat (first | apply Kd.R_alloc | apply Kd.R_drewN | apply Kd.R_drew)); exact HO297.out) (Kd.R_base ho0) hb); have n1_ := Aside0.mk (Kd.N_elder' (by (with_reducible repeat (first | apply Kd.N_alloc | apply Kd.N_drewN | apply Kd.N_drew)); exact HO303.out) (Kd.R_base ho0) hb); have n2_ := Aside0.mk (Kd.R_lower (Kd.R_new' ho0 (Kd.R_lt (by (with_reducible repeat (first | apply Kd.R_alloc | apply Kd.R_drewN | apply Kd.R_drew)); exact HO297.out))) (below_size (by repeat (first | (with_reducible first | exact HB.out | apply below_alloc | apply pw_below_drewN | apply below_drew1) | exact HB.out)))); have n3_ := Aside0.mk (below_step (by repeat (first | (with_reducible first | exact HB.out | apply below_alloc | apply pw_below_drewN | apply below_drew1) | exact HB.out)) hb); clear HO297; clear HO303; clear HB; have HO297 := n0_; have HO303 := n1_; have HO306 := n2_; have HB := n3_; clear n0_ n1_ n2_ n3_; (try clear hb); (try clear hb2); (try clear hk); (try clear hi); (try clear ho0); obtain ⟨Ao67, co67, eo67⟩ := Kd.R_slice HO306.out; subst eo67; have p308 : 0 ≤ (6 : Int) := (by omega); have q308 : 6 < (t304.length : Int) := of_decide_eq_true (by first | (with_reducible assumption) | assumption); obtain ⟨ad308, e308, hx308_0⟩ := Kd.at_int (Kd.R_reads' HO306.out).2.2 6 p308 q308; cases e308; (try simp only [show (6 : Int).toNat = 6 from rfl, Nat.reduceMul, Nat.reduceEqDiff, Go.Addr.add, ↓reduceIte] at hx308_0); have qi308 : (6 < t304.length) = True := eq_true (by omega); (try rw [show ((6 : Int)).toNat = 6 from rfl] at hx308_0); replace p308 := eq_true p308; replace q308 := eq_true q308))
     go_ret
     exact ⟨by first | rfl | (simp [errW_none, errW_some] <;> rfl) | (simp [*, errW_none, errW_some] <;> rfl), by repeat (first | (with_reducible first | exact HB.out | apply below_alloc | apply pw_below_drewN | apply below_drew1) | exact HB.out)⟩
   ·rw [if_neg c4] at H
    exact absurd H (by simp)
  ·rw [if_neg c3] at H
   have c3b0 : ((t304.length : Int) == 244) = false := beq_eq_false_iff_ne.mpr c3
   have c3b1 : ((t304.length : Int) != 244) = true := bne_iff_ne.mpr c3
   obtain rfl := Option.some.inj H
   go_enter Tryd.func5, Tryd.ntmps5
   go_wp2_with (first | ((with_reducible refine gate_dst (N := 4) rfl ?_); (try (refine gate_guard (by rfl) ?_; dsimp only)); refine Kd.R_lit (Kd.int .u8) _ 5 ?hg_21 (N := 4) ?hd_21 (xs := ([7] : List Int)) (inner := [.int .u8 7]) (ok := fun _ => True) (okp := fun _ => True) ?hr_21 ?hp_21 (fun _ hk => hk) trivial (Below.refl _ _) (Nat.le_refl _) (by simp) ?_; (case hd_21 => rfl); (case hg_21 => rfl); (case hr_21 => first | (go_simp; done) | (go_simp; rfl)); (case hp_21 => exact (Reps.one (show Kd.M (Kd.int .u8) _ _ _ 7 [.int .u8 7] from rfl) (Reps.none _ _))); intro v296 w68 ho69 hb hg_ hnew_; clear hg_ hnew_; (first | rw [← Ny295.out] at ho69 | (simp only [Int.reduceToNat] at ho69; rw [← Ny295.out] at ho69)); have n0_ := Aside0.mk (Kd.R_lower ho69 (below_size (by repeat (first | (with_reducible first | exact HB.out | apply below_alloc | apply pw_below_drewN | apply below_drew1) | exact HB.out)))); have n1_ := Aside0.mk (below_step (by repeat (first | (with_reducible first | exact HB.out | apply below_alloc | apply pw_below_drewN | apply below_drew1) | exact HB.out)) hb); clear HB; have HO297 := n0_; have HB := n1_; clear n0_ n1_; clear hb ho69) | ((with_reducible refine gate_dst (N := 5) rfl ?_); (try (refine gate_guard (by rfl) ?_; dsimp only)); refine Kd.R_lit (Kd.int .u8) _ 5 ?hg_22 (N := 5) ?hd_22 (xs := ([3] : List Int)) (inner := [.int .u8 3]) (ok := fun _ => True) (okp := fun _ => True) ?hr_22 ?hp_22 (fun _ hk => hk) trivial (Below.refl _ _) (Nat.le_refl _) (by simp) ?_; (case hd_22 => rfl); (case hg_22 => rfl); (case hr_22 => first | (go_simp; done) | (go_simp; rfl)); (case hp_22 => exact (Reps.one (show Kd.M (Kd.int .u8) _ _ _ 3 [.int .u8 3] from rfl) (Reps.none _ _))); intro v299 w70 ho71 hb hg_ hnew_; clear hg_ hnew_; (first | rw [← Ny298.out] at ho71 | (simp only [Int.reduceToNat] at ho71; rw [← Ny298.out] at ho71)); have n0_ := Aside0.mk (Kd.R_elder' (by (with_reducible repeat (first | apply Kd.R_alloc | apply Kd.R_drewN | apply Kd.R_drew)); exact HO297.out) (Kd.R_base ho71) hb); have n1_ := Aside0.mk (Kd.R_lower (Kd.R_new' ho71 (Kd.R_lt (by (with_reducible repeat (first | apply Kd.R_alloc | apply Kd.R_drewN | apply Kd.R_drew)); exact HO297.out))) (below_size (by repeat (first | (with_reducible first | exact HB.out | apply below_alloc | apply pw_below_drewN | apply below_drew1) | exact HB.out)))); have n2_ := Aside0.mk (below_step (by repeat (first | (with_reducible first | exact HB.out | apply below_alloc | apply pw_below_drewN | apply below_drew1) | exact HB.out)) hb); clear HO297; clear HB; have HO297 := n0_; have HO300 := n1_; have HB := n2_; clear n0_ n1_ n2_; clear hb ho71; obtain ⟨Ao72, co72, eo72⟩ := Kd.R_slice HO300.out; subst eo72) | ((with_reducible refine gate_dst (N := 7) rfl ?_); (try (refine gate_guard (by rfl) ?_; dsimp only)); refine Kd.N_lit k39 _ 39 ?hg_23 (N' := 7) ?hd_23 (xs := ([(⟨53, y298⟩ : S39)] : List (S39))) (inner := [.int .i64 53, .slice Ao72 y298.length co72]) (ok := (fun k_ => some k_ ≠ (v296 : Value).ownBlock)) (okp := (fun k_ => some k_ ≠ (v296 : Value).ownBlock)) ?hr_23 ?hp_23 (fun _ hk => hk) ((show ∀ k_, w70.heap.size ≤ k_ → (fun k_ => some k_ ≠ (v296 : Value).ownBlock) k_ from fun k_ hk => Kd.fresh' (Kd.R_lt (by (with_reducible repeat (first | apply Kd.R_alloc | apply Kd.R_drewN | apply Kd.R_drew)); exact HO297.out)) k_ hk) _ (Nat.le_refl _)) (Below.refl _ _) (Nat.le_refl _) (by simp) ?_; (case hd_23 => rfl); (case hg_23 => rfl); (case hr_23 => first | (go_simp; done) | (go_simp; rfl)); (case hp_23 => exact (Reps.c2 (show Kd.FK k39 _ _ (⟨53, y298⟩ : S39) [.int .i64 53, .slice Ao72 y298.length co72] from (k39_mkF _ _ (⟨53, y298⟩ : S39) (Kd.R_reads' (Kd.R_mono (ok' := (fun k_ => some k_ ≠ (v296 : Value).ownBlock)) (HO300.out) (fun k_ hk => hk.2))).2.1 (Kd.R_F (Kd.R_mono (ok' := (fun k_ => some k_ ≠ (v296 : Value).ownBlock)) (HO300.out) (fun k_ hk => hk.2))))) (Reps.none _ _))); intro v302 w73 ho74 hb hg_ hnew_; clear hg_ hnew_; (first | rw [← Ny301.out] at ho74 | (simp only [Int.reduceToNat] at ho74; rw [← Ny301.out] at ho74)); have n0_ := Aside0.mk (Kd.R_below (by (with_reducible repeat (first | apply Kd.R_alloc | apply Kd.R_drewN | apply Kd.R_drew)); exact HO297.out) hb); have n1_ := Aside0.mk (Kd.N_lower ho74 (below_size (by repeat (first | (with_reducible first | exact HB.out | apply below_alloc | apply pw_below_drewN | apply below_drew1) | exact HB.out)))); have n2_ := Aside0.mk (below_step (by repeat (first | (with_reducible first | exact HB.out | apply below_alloc | apply pw_below_drewN | apply below_drew1) | exact HB.out)) hb); clear HO297; clear HB; clear HO300; have HO297 := n0_; have HO303 := n1_; have HB := n2_; clear n0_ n1_ n2_; clear hb ho74; obtain ⟨Ao75, co75, eo75⟩ := Kd.N_slice HO303.out; subst eo75; obtain ⟨Ao76, co76, eo76⟩ := Kd.R_slice HO297.out; subst eo76) | ((with_reducible refine gate_callee (f := 10) rfl ?_); refine goesL_ (some 9) rfl rfl Tryd.func10 (by kernel_rfl) rfl #[.agg #[.int .i64 1, .int .u32 258, .int .i64 0, .int .i64 0, .int .u32 0, .int .u32 0, .int .u32 0, .int .u32 0, .slice Ao76 y295.length co76, .slice Ao75 y301.length co75]] rfl (by (try simp only [List.map_toArray, List.map_cons, List.map_nil]); first | done | rfl | (simp only [List.length_drop, List.length_take]; rfl)) ?_; (with_reducible refine (packet_Encode.calls k 1 258 0 0 0 0 0 0 _ _ y295 _ _ y301 t304 t307 _ ?side1_24 ?side2_24 ?side3_24 ?side4_24 A1.out).mono ?_); (case side1_24 => repeat (first | exact (Kd.R_reads' HO297.out).2.2 | (with_reducible refine Kd.C_alloc ?_ _) | (with_reducible refine Kd.C_drewN ?_ _) | (with_reducible refine Kd.C_drew ?_))); (case side2_24 => exact (Kd.R_reads' HO297.out).2.1); (case side3_24 => repeat (first | exact (Kd.N_reads' HO303.out).2.2 | (with_reducible refine Kd.C_alloc ?_ _) | (with_reducible refine Kd.C_drewN ?_ _) | (with_reducible refine Kd.C_drew ?_))); (case side4_24 => exact (Kd.N_reads' HO303.out).2.1); rintro e w77 ⟨v305, rfl, ho0, hb⟩; refine ⟨_, rfl, ?_⟩; have n0_ := Aside0.mk (Kd.R_elder' (by (with_reducible repeat (first | apply Kd.R_alloc | apply Kd.R_drewN | apply Kd.R_drew)); exact HO297.out) (Kd.R_base ho0) hb); have n1_ := Aside0.mk (Kd.N_elder' (by (with_reducible repeat (first | apply Kd.N_alloc | apply Kd.N_drewN | apply Kd.N_drew)); exact HO303.out) (Kd.R_base ho0) hb); have n2_ := Aside0.mk (Kd.R_lower (Kd.R_new' ho0 (Kd.R_lt (by (with_reducible repeat (first | apply Kd.R_alloc | apply Kd.R_drewN | apply Kd.R_drew)); exact HO297.out))) (below_size (by repeat (first | (with_reducible first | exact HB.out | apply below_alloc | apply pw_below_drewN | apply below_drew1) | exact HB.out)))); have n3_ := Aside0.mk (below_step (by repeat (first | (with_reducible first | exact HB.out | apply below_alloc | apply pw_below_drewN | apply below_drew1) | exact HB.out)) hb); clear HO297; clear HO303; clear HB; have HO297 := n0_; have HO303 := n1_; have HO306 := n2_; have HB := n3_; clear n0_ n1_ n2_ n3_; (try clear hb); (try clear hb2); (try clear hk); (try clear hi); (try clear ho0); obtain ⟨Ao78, co78, eo78⟩ := Kd.R_slice HO306.out; subst eo78))
   go_ret
   exact ⟨by first | rfl | (simp [errW_none, errW_some] <;> rfl) | (simp [*, errW_none, errW_some] <;> rfl), by repeat (first | (with_reducible first | exact HB.out | apply below_alloc | apply pw_below_drewN | apply below_drew1) | exact HB.out)⟩
 ·rw [if_neg c2] at H
  have c2b0 : (t307 == 0) = false := beq_eq_false_iff_ne.mpr c2
  have c2b1 : (t307 != 0) = true := bne_iff_ne.mpr c2
  obtain rfl := Option.some.inj H
  go_enter Tryd.func5, Tryd.ntmps5
  go_wp2_with (first | ((with_reducible refine gate_dst (N := 4) rfl ?_); (try (refine gate_guard (by rfl) ?_; dsimp only)); refine Kd.R_lit (Kd.int .u8) _ 5 ?hg_25 (N := 4) ?hd_25 (xs := ([7] : List Int)) (inner := [.int .u8 7]) (ok := fun _ => True) (okp := fun _ => True) ?hr_25 ?hp_25 (fun _ hk => hk) trivial (Below.refl _ _) (Nat.le_refl _) (by simp) ?_; (case hd_25 => rfl); (case hg_25 => rfl); (case hr_25 => first | (go_simp; done) | (go_simp; rfl)); (case hp_25 => exact (Reps.one (show Kd.M (Kd.int .u8) _ _ _ 7 [.int .u8 7] from rfl) (Reps.none _ _))); intro v296 w79 ho80 hb hg_ hnew_; clear hg_ hnew_; (first | rw [← Ny295.out] at ho80 | (simp only [Int.reduceToNat] at ho80; rw [← Ny295.out] at ho80)); have n0_ := Aside0.mk (Kd.R_lower ho80 (below_size (by repeat (first | (with_reducible first | exact HB.out | apply below_alloc | apply pw_below_drewN | apply below_drew1) | exact HB.out)))); have n1_ := Aside0.mk (below_step (by repeat (first | (with_reducible first | exact HB.out | apply below_alloc | apply pw_below_drewN | apply below_drew1) | exact HB.out)) hb); clear HB; have HO297 := n0_; have HB := n1_; clear n0_ n1_; clear hb ho80) | ((with_reducible refine gate_dst (N := 5) rfl ?_); (try (refine gate_guard (by rfl) ?_; dsimp only)); refine Kd.R_lit (Kd.int .u8) _ 5 ?hg_26 (N := 5) ?hd_26 (xs := ([3] : List Int)) (inner := [.int .u8 3]) (ok := fun _ => True) (okp := fun _ => True) ?hr_26 ?hp_26 (fun _ hk => hk) trivial (Below.refl _ _) (Nat.le_refl _) (by simp) ?_; (case hd_26 => rfl); (case hg_26 => rfl); (case hr_26 => first | (go_simp; done) | (go_simp; rfl)); (case hp_26 => exact (Reps.one (show Kd.M (Kd.int .u8) _ _ _ 3 [.int .u8 3] from rfl) (Reps.none _ _))); intro v299 w81 ho82 hb hg_ hnew_; clear hg_ hnew_; (first | rw [← Ny298.out] at ho82 | (simp only [Int.reduceToNat] at ho82; rw [← Ny298.out] at ho82)); have n0_ := Aside0.mk (Kd.R_elder' (by (with_reducible repeat (first | apply Kd.R_alloc | apply Kd.R_drewN | apply Kd.R_drew)); exact HO297.out) (Kd.R_base ho82) hb); have n1_ := Aside0.mk (Kd.R_lower (Kd.R_new' ho82 (Kd.R_lt (by (with_reducible repeat (first | apply Kd.R_alloc | apply Kd.R_drewN | apply Kd.R_drew)); exact HO297.out))) (below_size (by repeat (first | (with_reducible first | exact HB.out | apply below_alloc | apply pw_below_drewN | apply below_drew1) | exact HB.out)))); have n2_ := Aside0.mk (below_step (by repeat (first | (with_reducible first | exact HB.out | apply below_alloc | apply pw_below_drewN | apply below_drew1) | exact HB.out)) hb); clear HO297; clear HB; have HO297 := n0_; have HO300 := n1_; have HB := n2_; clear n0_ n1_ n2_; clear hb ho82; obtain ⟨Ao83, co83, eo83⟩ := Kd.R_slice HO300.out; subst eo83) | ((with_reducible refine gate_dst (N := 7) rfl ?_); (try (refine gate_guard (by rfl) ?_; dsimp only)); refine Kd.N_lit k39 _ 39 ?hg_27 (N' := 7) ?hd_27 (xs := ([(⟨53, y298⟩ : S39)] : List (S39))) (inner := [.int .i64 53, .slice Ao83 y298.length co83]) (ok := (fun k_ => some k_ ≠ (v296 : Value).ownBlock)) (okp := (fun k_ => some k_ ≠ (v296 : Value).ownBlock)) ?hr_27 ?hp_27 (fun _ hk => hk) ((show ∀ k_, w81.heap.size ≤ k_ → (fun k_ => some k_ ≠ (v296 : Value).ownBlock) k_ from fun k_ hk => Kd.fresh' (Kd.R_lt (by (with_reducible repeat (first | apply Kd.R_alloc | apply Kd.R_drewN | apply Kd.R_drew)); exact HO297.out)) k_ hk) _ (Nat.le_refl _)) (Below.refl _ _) (Nat.le_refl _) (by simp) ?_; (case hd_27 => rfl); (case hg_27 => rfl); (case hr_27 => first | (go_simp; done) | (go_simp; rfl)); (case hp_27 => exact (Reps.c2 (show Kd.FK k39 _ _ (⟨53, y298⟩ : S39) [.int .i64 53, .slice Ao83 y298.length co83] from (k39_mkF _ _ (⟨53, y298⟩ : S39) (Kd.R_reads' (Kd.R_mono (ok' := (fun k_ => some k_ ≠ (v296 : Value).ownBlock)) (HO300.out) (fun k_ hk => hk.2))).2.1 (Kd.R_F (Kd.R_mono (ok' := (fun k_ => some k_ ≠ (v296 : Value).ownBlock)) (HO300.out) (fun k_ hk => hk.2))))) (Reps.none _ _))); intro v302 w84 ho85 hb hg_ hnew_; clear hg_ hnew_; (first | rw [← Ny301.out] at ho85 | (simp only [Int.reduceToNat] at ho85; rw [← Ny301.out] at ho85)); have n0_ := Aside0.mk (Kd.R_below (by (with_reducible repeat (first | apply Kd.R_alloc | apply Kd.R_drewN | apply Kd.R_drew)); exact HO297.out) hb); have n1_ := Aside0.mk (Kd.N_lower ho85 (below_size (by repeat (first | (with_reducible first | exact HB.out | apply below_alloc | apply pw_below_drewN | apply below_drew1) | exact HB.out)))); have n2_ := Aside0.mk (below_step (by repeat (first | (with_reducible first | exact HB.out | apply below_alloc | apply pw_below_drewN | apply below_drew1) | exact HB.out)) hb); clear HO297; clear HB; clear HO300; have HO297 := n0_; have HO303 := n1_; have HB := n2_; clear n0_ n1_ n2_; clear hb ho85; obtain ⟨Ao86, co86, eo86⟩ := Kd.N_slice HO303.out; subst eo86; obtain ⟨Ao87, co87, eo87⟩ := Kd.R_slice HO297.out; subst eo87) | ((with_reducible refine gate_callee (f := 10) rfl ?_); refine goesL_ (some 9) rfl rfl Tryd.func10 (by kernel_rfl) rfl #[.agg #[.int .i64 1, .int .u32 258, .int .i64 0, .int .i64 0, .int .u32 0, .int .u32 0, .int .u32 0, .int .u32 0, .slice Ao87 y295.length co87, .slice Ao86 y301.length co86]] rfl (by (try simp only [List.map_toArray, List.map_cons, List.map_nil]); first | done | rfl | (simp only [List.length_drop, List.length_take]; rfl)) ?_; (with_reducible refine (packet_Encode.calls k 1 258 0 0 0 0 0 0 _ _ y295 _ _ y301 t304 t307 _ ?side1_28 ?side2_28 ?side3_28 ?side4_28 A1.out).mono ?_); (case side1_28 => repeat (first | exact (Kd.R_reads' HO297.out).2.2 | (with_reducible refine Kd.C_alloc ?_ _) | (with_reducible refine Kd.C_drewN ?_ _) | (with_reducible refine Kd.C_drew ?_))); (case side2_28 => exact (Kd.R_reads' HO297.out).2.1); (case side3_28 => repeat (first | exact (Kd.N_reads' HO303.out).2.2 | (with_reducible refine Kd.C_alloc ?_ _) | (with_reducible refine Kd.C_drewN ?_ _) | (with_reducible refine Kd.C_drew ?_))); (case side4_28 => exact (Kd.N_reads' HO303.out).2.1); rintro e w88 ⟨v305, rfl, ho0, hb⟩; refine ⟨_, rfl, ?_⟩; have n0_ := Aside0.mk (Kd.R_elder' (by (with_reducible repeat (first | apply Kd.R_alloc | apply Kd.R_drewN | apply Kd.R_drew)); exact HO297.out) (Kd.R_base ho0) hb); have n1_ := Aside0.mk (Kd.N_elder' (by (with_reducible repeat (first | apply Kd.N_alloc | apply Kd.N_drewN | apply Kd.N_drew)); exact HO303.out) (Kd.R_base ho0) hb); have n2_ := Aside0.mk (Kd.R_lower (Kd.R_new' ho0 (Kd.R_lt (by (with_reducible repeat (first | apply Kd.R_alloc | apply Kd.R_drewN | apply Kd.R_drew)); exact HO297.out))) (below_size (by repeat (first | (with_reducible first | exact HB.out | apply below_alloc | apply pw_below_drewN | apply below_drew1) | exact HB.out)))); have n3_ := Aside0.mk (below_step (by repeat (first | (with_reducible first | exact HB.out | apply below_alloc | apply pw_below_drewN | apply below_drew1) | exact HB.out)) hb); clear HO297; clear HO303; clear HB; have HO297 := n0_; have HO303 := n1_; have HO306 := n2_; have HB := n3_; clear n0_ n1_ n2_ n3_; (try clear hb); (try clear hb2); (try clear hk); (try clear hi); (try clear ho0)))
  go_ret
  exact ⟨by first | rfl | (simp [errW_none, errW_some] <;> rfl) | (simp [*, errW_none, errW_some] <;> rfl), by repeat (first | (with_reducible first | exact HB.out | apply below_alloc | apply pw_below_drewN | apply below_drew1) | exact HB.out)⟩

end Go.Proofs.YtmbfdmceameghaaDoor.Pr
end

section
namespace Go.Proofs.YtmbfdmceameghaaDoor
open Go.RowKit Go.Proofs.YtmbfdmceameghaaDoor.Pr Go.Proofs.YtmbfdmceameghaaDoorW.PrintWords Go.Proofs.YtmbfdmceameghaaDoorW.PrintLast Go.Proofs.YtmbfdmceameghaaDoorW.PrintMore
attribute [local go_sem] max2_int min2_int max_two min_two max_three min_three max_four min_four
set_option linter.unusedVariables false
set_option linter.unusedSimpArgs false

instance (l : List Int) : Decidable (PQ.bytesL l) := by unfold PQ.bytesL; infer_instance
def lessorlaw03_PacketDecodes.f (l : List Int) : Option Bool := if PQ.bytesL l then some true else none
theorem pdR_len (l : List Int) : (PQ.pdR l).2.2.2.2.2.2.2.2.2.1.length ≤ 1024 := by
  unfold PQ.pdR
  split
  · exact PD.odR_len _
  · simp
theorem awakeC (w : World) : Calls Tryd.prog 5 #[] w fun e w' => e = .returned (.bool true) ∧ Below w.heap.size w w' := lessorlaw03_awake.calls 5000 true w (by decide +kernel)
set_option maxHeartbeats 8000000 in
set_option maxRecDepth 100000 in
theorem lessorlaw03_PacketDecodes.calls (A : Option Addr) (c : Nat) (l : List Int) (r : Bool) (w : World) (hl : (Kd.int .u8).C w A l.length l) (hc : l.length ≤ c) (h : lessorlaw03_PacketDecodes.f l = some r) :
    Calls Tryd.prog 3 #[.slice A l.length c] w fun e w' => e = .returned (.bool r) ∧ Below w.heap.size w w' := by
  unfold lessorlaw03_PacketDecodes.f at h
  split at h
  case isFalse => cases h
  rename_i hbl
  obtain rfl : true = r := Option.some.inj h
  clear h
  have HL := Lib.hid hl
  have HC := Lib.hid hc
  have HBL := Lib.hid hbl
  have HW : Hid (Below w.heap.size w w) := Below.refl _ _
  clear hl hc hbl
  go_enter Tryd.func3, Tryd.ntmps3
  go_wp2_with fail
  refine (awakeC _).mono ?_
  rintro e W ⟨rfl, hb⟩
  have HW2 := Lib.hid (HW.out.trans (hb.mono HW.out.size))
  clear hb HW
  have HW := HW2
  clear HW2
  by_cases h3 : 3000 < l.length
  case pos =>
    have q1 : ((3000 : Int) < (l.length : Int)) = True := eq_true (by omega)
    have q2 : decide ((3000 : Int) < (l.length : Int)) = true := decide_eq_true (by omega)
    clear h3
    go_wp2_with fail
    go_ret
    exact ⟨rfl, HW.out⟩
  have q1 : ((3000 : Int) < (l.length : Int)) = False := eq_false (by omega)
  have q2 : decide ((3000 : Int) < (l.length : Int)) = false := decide_eq_false (by omega)
  have HL3 : Hid (l.length ≤ 3000) := Lib.hid (by omega)
  clear h3
  go_wp2_with fail
  clear q1 q2
  obtain ⟨r1, r2, r3, r4, r5, r6, r7, r8, r9, r10, r11, hr⟩ : ∃ r1 r2 r3 r4 r5 r6 r7 r8 r9 r10 r11, PQ.pdR l = (r1, r2, r3, r4, r5, r6, r7, r8, r9, r10, r11) := ⟨_, _, _, _, _, _, _, _, _, _, _, rfl⟩
  have HN : Hid (r10.length ≤ 1000000) := by
    have := pdR_len l
    rw [hr] at this
    exact Nat.le_trans this (by omega)
  have HR := Lib.hid hr
  clear hr
  refine (packet_Decode.calls A c l r1 r2 r3 r4 r5 r6 r7 r8 r9 r10 r11 _ (Kd.C_below HL.out HW.out) HC.out ((PQ.decode_eq l HBL.out (by have := HL3.out; omega)).trans (congrArg some HR.out))).mono ?_
  rintro e W ⟨v8, v9, rfl, hv8, hv9, hb⟩
  obtain ⟨A5, c5, rfl⟩ := Kd.R_slice hv8
  obtain ⟨A6, c6, rfl⟩ := Kd.S_slice hv9
  have HM8 := Lib.hid (Kd.R_reads' hv8).2.2
  have HM9 := Lib.hid (Kd.S_reads' hv9).2.2
  have HC6 := Lib.hid (Kd.S_reads' hv9).2.1
  clear hv8 hv9
  have HW2 := Lib.hid (HW.out.trans (hb.mono HW.out.size))
  clear hb HW
  have HW := HW2
  clear HW2
  go_upto_region 5 with fail
  obtain ⟨bq, hbx⟩ : ∃ b, W.heap.size = b := ⟨_, rfl⟩
  obtain ⟨V, hV⟩ : ∃ V, W.alloc (.cells #[.int .i64 r1, .int .u32 r2, .int .i64 r3, .int .i64 r4, .int .u32 r5, .int .u32 r6, .int .u32 r7, .int .u32 r8, .slice A5 r9.length c5, .slice A6 r10.length c6] 28) = V := ⟨_, rfl⟩
  have HQ : Hid (V.heap[bq]? = some (.cells #[.int .i64 r1, .int .u32 r2, .int .i64 r3, .int .i64 r4, .int .u32 r5, .int .u32 r6, .int .u32 r7, .int .u32 r8, .slice A5 r9.length c5, .slice A6 r10.length c6] 28 (0, 0))) := by show _ = _; rw [← hV, ← hbx]; exact blk_new _ _
  have HM82 := Lib.hid (show Kd.C _ V _ _ _ by rw [← hV]; exact Kd.C_alloc HM8.out _)
  have HM92 := Lib.hid (show Kd.C _ V _ _ _ by rw [← hV]; exact Kd.C_alloc HM9.out _)
  have HW2 : Hid (Below w.heap.size w V) := by show Below _ _ _; rw [← hV]; exact below_alloc HW.out _
  clear HW HM8 HM9
  have HW := HW2
  have HM8 := HM82
  have HM9 := HM92
  clear HW2 HM82 HM92
  rw [hbx]
  rw [hV]
  clear hV hbx
  go_wp2_with fail
  refine (lessorref03_Decode.calls 4400 A c l r1 r2 r3 r4 r5 r6 r7 r8 r9 r10 r11 _ (Kd.C_below HL.out HW.out) HC.out ((PQ.ref_decode_eq l HBL.out HL3.out 4400 (Nat.le_refl _)).trans (congrArg some HR.out))).mono ?_
  rintro e W ⟨v8, v9, rfl, hv8, hv9, hb⟩
  obtain ⟨A7, c7, rfl⟩ := Kd.R_slice hv8
  obtain ⟨AX, cx, rfl⟩ := Kd.S_slice hv9
  have HN8 := Lib.hid (Kd.R_reads' hv8).2.2
  have HN9 := Lib.hid (Kd.S_reads' hv9).2.2
  have HCX := Lib.hid (Kd.S_reads' hv9).2.1
  clear hv8 hv9
  have HQ2 : Hid (_ = some _) := (hb.block _ (blk_lt HQ.out)).trans HQ.out
  have HM82 := Lib.hid (Kd.C_below HM8.out hb)
  have HM92 := Lib.hid (Kd.C_below HM9.out hb)
  have HW2 := Lib.hid (HW.out.trans (hb.mono HW.out.size))
  clear hb HQ HM8 HM9 HW
  have HQ := HQ2
  have HM8 := HM82
  have HM9 := HM92
  have HW := HW2
  clear HQ2 HM82 HM92 HW2
  go_upto_region 6 with fail
  obtain ⟨br, hbx⟩ : ∃ b, W.heap.size = b := ⟨_, rfl⟩
  obtain ⟨V, hV⟩ : ∃ V, W.alloc (.cells #[.int .i64 r1, .int .u32 r2, .int .i64 r3, .int .i64 r4, .int .u32 r5, .int .u32 r6, .int .u32 r7, .int .u32 r8, .slice A7 r9.length c7, .slice AX r10.length cx] 28) = V := ⟨_, rfl⟩
  have HR2 : Hid (V.heap[br]? = some (.cells #[.int .i64 r1, .int .u32 r2, .int .i64 r3, .int .i64 r4, .int .u32 r5, .int .u32 r6, .int .u32 r7, .int .u32 r8, .slice A7 r9.length c7, .slice AX r10.length cx] 28 (0, 0))) := by show _ = _; rw [← hV, ← hbx]; exact blk_new _ _
  have HQ2 : Hid (V.heap[bq]? = some (.cells #[.int .i64 r1, .int .u32 r2, .int .i64 r3, .int .i64 r4, .int .u32 r5, .int .u32 r6, .int .u32 r7, .int .u32 r8, .slice A5 r9.length c5, .slice A6 r10.length c6] 28 (0, 0))) := by show _ = _; rw [← hV]; exact (Below.heap_alloc _ _ _ (by have := blk_lt HQ.out; omega)).trans HQ.out
  have HM82 := Lib.hid (show Kd.C _ V _ _ _ by rw [← hV]; exact Kd.C_alloc HM8.out _)
  have HM92 := Lib.hid (show Kd.C _ V _ _ _ by rw [← hV]; exact Kd.C_alloc HM9.out _)
  have HN82 := Lib.hid (show Kd.C _ V _ _ _ by rw [← hV]; exact Kd.C_alloc HN8.out _)
  have HN92 := Lib.hid (show Kd.C _ V _ _ _ by rw [← hV]; exact Kd.C_alloc HN9.out _)
  have HW2 : Hid (Below w.heap.size w V) := by show Below _ _ _; rw [← hV]; exact below_alloc HW.out _
  clear HW HQ HM8 HM9 HN8 HN9
  have HW := HW2
  have HQ := HQ2
  have HM8 := HM82
  have HM9 := HM92
  have HN8 := HN82
  have HN9 := HN92
  clear HW2 HQ2 HM82 HM92 HN82 HN92
  rw [hbx]
  rw [hV]
  clear hV hbx
  have y0 := (blk_cell HQ.out 0).trans rfl
  have y1 := (blk_cell HQ.out 1).trans rfl
  have y2 := (blk_cell HQ.out 2).trans rfl
  have y3 := (blk_cell HQ.out 3).trans rfl
  have y4 := (blk_cell HQ.out 4).trans rfl
  have y5 := (blk_cell HQ.out 5).trans rfl
  have y6 := (blk_cell HQ.out 6).trans rfl
  have y7 := (blk_cell HQ.out 7).trans rfl
  have y8 := (blk_cell HQ.out 8).trans rfl
  have y9 := (blk_cell HQ.out 9).trans rfl
  have z0 := (blk_cell HR2.out 0).trans rfl
  have z1 := (blk_cell HR2.out 1).trans rfl
  have z2 := (blk_cell HR2.out 2).trans rfl
  have z3 := (blk_cell HR2.out 3).trans rfl
  have z4 := (blk_cell HR2.out 4).trans rfl
  have z5 := (blk_cell HR2.out 5).trans rfl
  have z6 := (blk_cell HR2.out 6).trans rfl
  have z7 := (blk_cell HR2.out 7).trans rfl
  have z8 := (blk_cell HR2.out 8).trans rfl
  have z9 := (blk_cell HR2.out 9).trans rfl
  go_wp2_with fail
  refine (same3C r1 r2 r3 r4 r5 r6 r7 r8 A5 c5 r9 A6 c6 r10 A7 c7 AX cx _ HM8.out HM9.out HC6.out HN8.out HN9.out HCX.out HN.out).mono ?_
  rintro e W ⟨rfl, hb⟩
  clear y0 y1 y2 y3 y4 y5 y6 y7 y8 y9 z0 z1 z2 z3 z4 z5 z6 z7 z8 z9
  clear HQ HR2 HM8 HM9 HN8 HN9
  have HW2 := Lib.hid (HW.out.trans (hb.mono HW.out.size))
  clear hb HW
  have HW := HW2
  clear HW2
  go_wp2_with fail
  go_ret
  exact ⟨by simp, HW.out⟩
end Go.Proofs.YtmbfdmceameghaaDoor
end

section
-- written by a program of this session (wip/tools/gen.py) over the kit's print
namespace Go.Proofs.YtmbfdmceameghaaDoor
open Go.RowKit Go.Proofs.YtmbfdmceameghaaDoor.Pr Go.Proofs.YtmbfdmceameghaaDoorW.PrintWords Go.Proofs.YtmbfdmceameghaaDoorW.PrintLast Go.Proofs.YtmbfdmceameghaaDoorW.PrintMore
set_option linter.unusedVariables false
namespace packetDecodes
/-- What is left to prove, over numbers and lists. -/
def Pure : Prop := ∀ (l0 : List Int), l0.length ≤ maxLen → (∀ x ∈ l0, (Lit.int .u8 x).wf = true) → lessorlaw03_PacketDecodes.f l0 = some true
end packetDecodes
end Go.Proofs.YtmbfdmceameghaaDoor
end

section
namespace Go.Proofs.YtmbfdmceameghaaDoor.packetDecodes.Pure
open Go.RowKit Go.Proofs.YtmbfdmceameghaaDoor Go.Proofs.YtmbfdmceameghaaDoor.Pr Go.Proofs.YtmbfdmceameghaaDoor.PQ Go.Proofs.YtmbfdmceameghaaDoorW.PrintWords Go.Proofs.YtmbfdmceameghaaDoorW.PrintLast
set_option linter.unusedVariables false
set_option linter.unusedSimpArgs false

theorem PacketDecodes : packetDecodes.Pure := by
  intro l hm hb
  exact if_pos (fun x h => PD.wf_byte (hb x h))
end Go.Proofs.YtmbfdmceameghaaDoor.packetDecodes.Pure
end
