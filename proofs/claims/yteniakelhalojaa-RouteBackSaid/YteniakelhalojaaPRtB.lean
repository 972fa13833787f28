/-
  Routes' data is decoded as they were; any data that is decoded is that of its routes: over numbers and lists. No condition.
-/
import Derived.Test.YteniakelhalojaaPRtD
namespace Go.Proofs.Yteniakelhalojaa.PR
open Go.RowKit Go.Proofs.Yteniakelhalojaa Go.Proofs.Yteniakelhalojaa.Pn Go.Proofs.YteniakelhalojaaW.PrintWords Go.Proofs.YteniakelhalojaaW.PrintLast Go.Proofs.YteniakelhalojaaW.PrintMore
set_option linter.unusedVariables false
set_option linter.unusedSimpArgs false

theorem rt4_len (a : Int) : (rt4 a).length = 4 := rfl
theorem ofR_rt4 {a : Int} (h : okU a) : ofR (rt4 a) = a := by
  obtain ⟨h0, h1⟩ := h
  have e : ofR (rt4 a) = ((rtB a 0 * 256 + rtB a 1) * 256 + rtB a 2) * 256 + rtB a 3 := rfl
  rw [e]
  unfold rtB
  have b0 : a / 256 ^ (3 - 0) = a / 16777216 := rfl
  have b1 : a / 256 ^ (3 - 1) = a / 65536 := rfl
  have b2 : a / 256 ^ (3 - 2) = a / 256 := rfl
  have b3 : a / 256 ^ (3 - 3) = a / 1 := rfl
  rw [b0, b1, b2, b3]
  omega
theorem ofR_take {a : Int} {o : Nat} (h : okU a) (ho : o ≤ 4) (hz : a.toNat % 256 ^ (4 - o) = 0) : ofR ((rt4 a).take o) = a := by
  obtain ⟨h0, h1⟩ := h
  have b0 : rtB a 0 = a / 16777216 % 256 := rfl
  have b1 : rtB a 1 = a / 65536 % 256 := rfl
  have b2 : rtB a 2 = a / 256 % 256 := rfl
  have b3 : rtB a 3 = a / 1 % 256 := rfl
  obtain rfl | rfl | rfl | rfl | rfl : o = 0 ∨ o = 1 ∨ o = 2 ∨ o = 3 ∨ o = 4 := by omega
  · have e : ofR ((rt4 a).take 0) = ((0 * 256 + 0) * 256 + 0) * 256 + 0 := rfl
    rw [e]
    rw [show 256 ^ (4 - 0) = 4294967296 from rfl] at hz
    omega
  · have e : ofR ((rt4 a).take 1) = ((rtB a 0 * 256 + 0) * 256 + 0) * 256 + 0 := rfl
    rw [e, b0]
    rw [show 256 ^ (4 - 1) = 16777216 from rfl] at hz
    omega
  · have e : ofR ((rt4 a).take 2) = ((rtB a 0 * 256 + rtB a 1) * 256 + 0) * 256 + 0 := rfl
    rw [e, b0, b1]
    rw [show 256 ^ (4 - 2) = 65536 from rfl] at hz
    omega
  · have e : ofR ((rt4 a).take 3) = ((rtB a 0 * 256 + rtB a 1) * 256 + rtB a 2) * 256 + 0 := rfl
    rw [e, b0, b1, b2]
    rw [show 256 ^ (4 - 3) = 256 from rfl] at hz
    omega
  · have e : ofR ((rt4 a).take 4) = ((rtB a 0 * 256 + rtB a 1) * 256 + rtB a 2) * 256 + rtB a 3 := rfl
    rw [e, b0, b1, b2, b3]
    omega
theorem net_zero {x : Rt} (h : okR x) : x.f0.toNat % 256 ^ (4 - rtOct x.f1) = 0 := by
  obtain ⟨h0, h1, h2⟩ := h
  have ho := rtOct_le h0 h1
  have hd : 256 ^ (4 - rtOct x.f1) ∣ 2 ^ sh x := by
    rw [show (256 : Nat) = 2 ^ 8 from rfl, ← Nat.pow_mul]
    exact Nat.pow_dvd_pow 2 (by unfold sh; unfold rtOct at ho ⊢; omega)
  exact Nat.mod_eq_zero_of_dvd (Nat.dvd_trans hd (Nat.dvd_of_mod_eq_zero h2))
theorem rdGo_enc : ∀ (l pre : List Rt), (∀ x ∈ l, okR x) → (∀ x ∈ l, okU x.f0 ∧ okU x.f2) → rdGo (rtEnc l) pre = some (pre ++ l) := by
  intro l
  induction l with
  | nil => intro pre _ _; rw [show rtEnc [] = [] from rfl, rdGo_nil, List.append_nil]
  | cons x l ih =>
    intro pre hr hu
    have hx := hr x (by simp)
    have ux := hu x (by simp)
    have ho := rtOct_le hx.1 hx.2.1
    have hlen : ((rt4 x.f0).take (rtOct x.f1)).length = rtOct x.f1 := by rw [List.length_take, rt4_len]; omega
    have hm : x.f1 % 256 = x.f1 := by have := hx.1; have := hx.2.1; omega
    obtain ⟨r, hrr⟩ : ∃ r, (rt4 x.f0).take (rtOct x.f1) ++ (rt4 x.f2 ++ rtEnc l) = r := ⟨_, rfl⟩
    have e : rtEnc (x :: l) = x.f1 :: r := by
      rw [← hrr]
      unfold rtEnc
      rw [List.map_cons, List.flatten_cons]
      unfold rtEnc1
      rw [hm]
      simp only [List.append_assoc, List.cons_append, List.nil_append]
    have t1 : r.take (rtOct x.f1) = (rt4 x.f0).take (rtOct x.f1) := by rw [← hrr, List.take_append_of_le_length (by omega), List.take_of_length_le (by omega)]
    have t2 : r.drop (rtOct x.f1) = rt4 x.f2 ++ rtEnc l := by rw [← hrr, List.drop_append_of_le_length (by omega), List.drop_of_length_le (by omega), List.nil_append]
    have t4 : (r.drop (rtOct x.f1)).take 4 = rt4 x.f2 := by rw [t2, List.take_append_of_le_length (by rw [rt4_len]; omega), List.take_of_length_le (by rw [rt4_len]; omega)]
    have hX : rtRd x.f1 r = x := by
      unfold rtRd
      rw [t1, t4, ofR_take ux.1 ho (net_zero hx), ofR_rt4 ux.2]
    have t3 : r.drop (rtOct x.f1 + 4) = rtEnc l := by
      rw [← List.drop_drop, t2, List.drop_append_of_le_length (by rw [rt4_len]; omega), List.drop_of_length_le (by rw [rt4_len]; omega), List.nil_append]
    have hrl : rtOct x.f1 + 4 ≤ r.length := by rw [← hrr, List.length_append, List.length_append, hlen, rt4_len]; omega
    have hc := hx.2.1
    rw [e, rdGo_step (by omega) (by rw [hX, rtRight_eq x ux.1]; exact decide_eq_true hx), t3, hX, ih (pre ++ [x]) (fun y hy => hr y (List.mem_cons_of_mem _ hy)) (fun y hy => hu y (List.mem_cons_of_mem _ hy)), List.append_assoc]
    rfl
theorem rt4_ofR (q : List Int) (h : bytesR q) (hl : q.length ≤ 4) : (rt4 (ofR q)).take q.length = q := by
  have g0 := bytesR_get h 0
  have g1 := bytesR_get h 1
  have g2 := bytesR_get h 2
  have g3 := bytesR_get h 3
  have b0 : rtB (ofR q) 0 = ofR q / 16777216 % 256 := rfl
  have b1 : rtB (ofR q) 1 = ofR q / 65536 % 256 := rfl
  have b2 : rtB (ofR q) 2 = ofR q / 256 % 256 := rfl
  have b3 : rtB (ofR q) 3 = ofR q / 1 % 256 := rfl
  have hf : ofR q = ((q.getD 0 0 * 256 + q.getD 1 0) * 256 + q.getD 2 0) * 256 + q.getD 3 0 := rfl
  have r0 : rtB (ofR q) 0 = q.getD 0 0 := by omega
  have r1 : rtB (ofR q) 1 = q.getD 1 0 := by omega
  have r2 : rtB (ofR q) 2 = q.getD 2 0 := by omega
  have r3 : rtB (ofR q) 3 = q.getD 3 0 := by omega
  unfold rt4
  rw [r0, r1, r2, r3]
  match q, hl with
  | [], _ => rfl
  | [a], _ => rfl
  | [a, b], _ => rfl
  | [a, b, c], _ => rfl
  | [a, b, c, d], _ => rfl
  | a :: b :: c :: d :: e :: r, hl => simp at hl
theorem rdGo_back : ∀ (n : Nat) (b : List Int) (pre m : List Rt), b.length ≤ n → bytesR b → rdGo b pre = some m → ∃ q, m = pre ++ q ∧ rtEnc q = b ∧ ∀ x ∈ q, okR x ∧ okU x.f0 ∧ okU x.f2 := by
  intro n
  induction n with
  | zero =>
    intro b pre m hn hb h
    obtain rfl : b = [] := List.length_eq_zero_iff.1 (by omega)
    rw [rdGo_nil] at h
    cases h
    exact ⟨[], by simp, rfl, by simp⟩
  | succ n ih =>
    intro b pre m hn hb h
    cases b with
    | nil =>
      rw [rdGo_nil] at h
      cases h
      exact ⟨[], by simp, rfl, by simp⟩
    | cons x r =>
      by_cases c : 32 < x ∨ r.length < rtOct x + 4
      · rw [rdGo_short c] at h; cases h
      · have hx : 0 ≤ x ∧ x ≤ 255 := hb x (by simp)
        have ho := rtOct_le hx.1 (by omega)
        have hbr : bytesR r := fun y hy => hb y (List.mem_cons_of_mem _ hy)
        have hb1 : bytesR (r.take (rtOct x)) := fun y hy => hbr y (List.mem_of_mem_take hy)
        have hb2 : bytesR ((r.drop (rtOct x)).take 4) := fun y hy => hbr y (List.mem_of_mem_drop (List.mem_of_mem_take hy))
        have u1 : okU (rtRd x r).f0 := ofR_in hb1
        have u2 : okU (rtRd x r).f2 := ofR_in hb2
        by_cases c2 : rtRight (rtRd x r) = true
        · rw [rdGo_step c c2] at h
          obtain ⟨q, hq, he, ha⟩ := ih (r.drop (rtOct x + 4)) (pre ++ [rtRd x r]) m (by rw [List.length_drop]; simp only [List.length_cons] at hn; omega) (fun y hy => hbr y (List.mem_of_mem_drop hy)) h
          refine ⟨rtRd x r :: q, by rw [hq, List.append_assoc]; rfl, ?_, ?_⟩
          · have l1 : (r.take (rtOct x)).length = rtOct x := by rw [List.length_take]; omega
            have l2 : ((r.drop (rtOct x)).take 4).length = 4 := by rw [List.length_take, List.length_drop]; omega
            have e1 := rt4_ofR _ hb1 (by omega)
            have e2 := rt4_ofR _ hb2 (by omega)
            rw [l1] at e1
            rw [l2, List.take_of_length_le (by rw [rt4_len]; omega)] at e2
            have e0 : rtEnc1 (rtRd x r) = x :: (r.take (rtOct x) ++ (r.drop (rtOct x)).take 4) := by
              show [x % 256] ++ (rt4 (ofR (r.take (rtOct x)))).take (rtOct x) ++ rt4 (ofR ((r.drop (rtOct x)).take 4)) = _
              rw [e1, e2, show x % 256 = x by omega]
              rfl
            have e3 : rtEnc (rtRd x r :: q) = rtEnc1 (rtRd x r) ++ rtEnc q := by unfold rtEnc; rw [List.map_cons, List.flatten_cons]
            rw [e3, e0, he, List.cons_append, List.append_assoc, ← List.drop_drop, List.take_append_drop, List.take_append_drop]
          · intro y hy
            rcases List.mem_cons.1 hy with rfl | hy
            · exact ⟨by rw [rtRight_eq _ u1] at c2; exact of_decide_eq_true c2, u1, u2⟩
            · exact ha y hy
        · rw [rdGo_wrong c (by simpa using c2)] at h; cases h
end Go.Proofs.Yteniakelhalojaa.PR
