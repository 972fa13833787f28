/-
  Packets of bytes, over lists: what packet.Decode and the reference's Decode compute; what is encoded is decoded. No condition of their own.
  Packets and their bytes, over lists: what the law PacketBack tells. No condition of its own.
  Printed: PrF5.
  Printed: PrF9.
-/
import Derived.Test.YtmbfdmceameghaaDoorMPB7
import Derived.Test.YtmbfdmceameghaaDoorMPB3
import Derived.Test.YtmbfdmceameghaaDoorMPB1
import Derived.Test.YtmbfdmceameghaaDoorMPB4

section
namespace Go.Proofs.YtmbfdmceameghaaDoor.PQ
open Go.RowKit Go.Proofs.YtmbfdmceameghaaDoor Go.Proofs.YtmbfdmceameghaaDoor.Pr Go.Proofs.YtmbfdmceameghaaDoorW.PrintWords Go.Proofs.YtmbfdmceameghaaDoorW.PrintLast Go.Proofs.YtmbfdmceameghaaDoorW.PrintMore
set_option linter.unusedVariables false
set_option linter.unusedSimpArgs false

theorem wrapQ {x : Int} (h0 : 0 ≤ x) (h1 : x < 9223372036854775808) : wrap64 x = x := by unfold wrap64; omega
theorem str_inj {a b : List Int} (ha : bytesL a) (hb : bytesL b) : ((strOfNums a).toList == (strOfNums b).toList) = decide (a = b) := by
  have key : ∀ (a b : List Int), bytesL a → bytesL b → (a.map fun n => UInt8.ofNat n.toNat) = (b.map fun n => UInt8.ofNat n.toNat) → a = b := by
    intro a
    induction a with
    | nil => intro b _ _ h; cases b with | nil => rfl | cons => simp at h
    | cons x a ih =>
      intro b ha hb h
      cases b with
      | nil => simp at h
      | cons y b =>
        simp only [List.map_cons, List.cons.injEq] at h
        have h1 := ha x (by simp)
        have h2 := hb y (by simp)
        have e : x = y := by
          have := congrArg UInt8.toNat h.1
          simp only [UInt8.toNat_ofNat'] at this
          omega
        rw [e, ih b (fun z hz => ha z (by simp [hz])) (fun z hz => hb z (by simp [hz])) h.2]
  have hl : ∀ xs : List Int, (strOfNums xs).toList = xs.map fun n => UInt8.ofNat n.toNat := fun xs => by
    rw [← strOfNums_data]
    first
      | rfl
      | exact ByteArray.toList_eq _
      | simp [ByteArray.toList_data]
  rw [hl, hl, Bool.eq_iff_iff, beq_iff_eq, decide_eq_true_iff]
  exact ⟨fun h => key a b ha hb h, fun h => by rw [h]⟩

/-! ### options -/
theorem enc_same : PO.enc = PD.enc := rfl
theorem encR_same (l : List OptP) : PO.encR l = PD.encR l := rfl
theorem pGo_ok : ∀ (n : Nat) (l : List Int) (acc pre : List OptP) (r : List Int), l.length ≤ n → bytesL l → pGo l acc = (pre, some r) → ∃ m, pre = acc ++ m ∧ (∀ x ∈ m, PD.okOpt x) ∧ (PD.enc m).length + 1 + r.length ≤ l.length ∧ (∀ x ∈ m, bytesL x.f1) := by
  intro n
  induction n with
  | zero =>
    intro l acc pre r hl hb h
    obtain rfl : l = [] := List.eq_nil_of_length_eq_zero (by omega)
    rw [pGo_nil] at h
    cases h
  | succ n ih =>
    intro l acc pre r hl hb h
    cases l with
    | nil => rw [pGo_nil] at h; cases h
    | cons x t =>
      have hx := hb x (by simp)
      have hbt : bytesL t := fun y hy => hb y (by simp [hy])
      simp only [List.length_cons] at hl
      by_cases c0 : x = 0
      · subst c0
        rw [pGo_zero] at h
        obtain ⟨m, h1, h2, h3, h4⟩ := ih t acc pre r (by omega) hbt h
        exact ⟨m, h1, h2, by simp only [List.length_cons]; omega, h4⟩
      by_cases c1 : x = 255
      · subst c1
        rw [pGo_end] at h
        obtain ⟨e1, e2⟩ := Prod.mk.inj h
        subst e1
        obtain rfl := Option.some.inj e2
        exact ⟨[], by simp, by simp, by simp [PD.enc]; omega, by simp⟩
      cases t with
      | nil => rw [pGo_lone c0 c1] at h; cases h
      | cons y s =>
        have hy := hb y (by simp)
        by_cases c2 : y.toNat ≤ s.length
        · rw [pGo_step c0 c1 c2] at h
          simp only [List.length_cons] at hl
          obtain ⟨m, h1, h2, h3, h4⟩ := ih (s.drop y.toNat) _ pre r (by rw [List.length_drop]; omega) (fun z hz => hbt z (List.mem_cons_of_mem _ (List.mem_of_mem_drop hz))) h
          have hlt : (s.take y.toNat).length = y.toNat := by rw [List.length_take]; omega
          refine ⟨⟨x, s.take y.toNat⟩ :: m, by rw [h1]; simp, ?_, ?_, ?_⟩
          · intro z hz
            rcases List.mem_cons.1 hz with rfl | hz
            · exact ⟨by simp only; omega, by simp only; omega, by simp only; omega⟩
            · exact h2 z hz
          · rw [List.length_drop] at h3
            have : PD.enc (⟨x, s.take y.toNat⟩ :: m) = PD.enc1 ⟨x, s.take y.toNat⟩ ++ PD.enc m := by simp [PD.enc]
            rw [this, List.length_append, PD.enc1_len]
            simp only [List.length_cons]
            omega
          · intro z hz
            rcases List.mem_cons.1 hz with rfl | hz
            · exact fun w hw => hbt w (List.mem_cons_of_mem _ (List.mem_of_mem_take hw))
            · exact h4 z hz
        · rw [pGo_stop c0 c1 c2] at h; cases h
theorem odR_cases (l : List Int) (hb : bytesL l) : odR l = ([], 2) ∨ ∃ os, odR l = (os, 0) ∧ (∀ x ∈ os, PD.okOpt x) ∧ (PD.enc os).length + 1 ≤ l.length ∧ l.length ≤ 1024 ∧ (∀ x ∈ os, bytesL x.f1) := by
  rw [PD.odR_eq]
  by_cases c : 1024 < l.length
  · rw [if_pos c]; exact .inl rfl
  · rw [if_neg c]
    obtain ⟨pre, r, hp⟩ : ∃ pre r, pGo l [] = (pre, r) := ⟨_, _, rfl⟩
    rw [hp]
    cases r with
    | none => exact .inl rfl
    | some r =>
      unfold PD.odOf
      simp only
      by_cases c2 : ∀ x ∈ r, x = 0
      · rw [if_pos c2]
        obtain ⟨m, h1, h2, h3, h4⟩ := pGo_ok _ l [] pre r (Nat.le_refl _) hb hp
        rw [List.nil_append] at h1
        subst h1
        exact .inr ⟨pre, rfl, h2, by omega, by omega, h4⟩
      · rw [if_neg c2]; exact .inl rfl
theorem pGo_encQ (l : List OptP) (ok : ∀ x ∈ l, PD.okOpt x) : ∀ (t : List Int) (acc : List OptP), pGo (PD.enc l ++ t) acc = pGo t (acc ++ l) := by
  induction l with
  | nil => intro t acc; simp [PD.enc]
  | cons x l ih =>
    intro t acc
    obtain ⟨h1, h2, h3⟩ := ok x (by simp)
    have e : PD.enc (x :: l) ++ t = x.f0 :: (x.f1.length : Int) :: (x.f1 ++ (PD.enc l ++ t)) := by
      have e1 : PD.enc (x :: l) = PD.enc1 x ++ PD.enc l := by simp [PD.enc]
      rw [e1]
      unfold PD.enc1
      rw [Int.emod_eq_of_lt (by omega) (by omega), Int.emod_eq_of_lt (by omega) (by omega)]
      simp
    rw [e, pGo_step (by omega) (by omega) (by simp), Int.toNat_natCast, List.drop_left, List.take_left, ih (fun y hy => ok y (by simp [hy]))]
    simp
theorem odR_enc (l : List OptP) (ok : ∀ x ∈ l, PD.okOpt x) (h : (PD.enc l).length + 1 ≤ 1024) : odR (PD.enc l ++ [255]) = (l, 0) := by
  rw [PD.odR_eq, if_neg (by simp; omega), pGo_encQ l ok, pGo_end, List.nil_append]
  unfold PD.odOf
  simp
theorem encR_ok {l : List OptP} (h : (PO.encR l).2 = 0) : (∀ x ∈ l, PD.okOpt x) ∧ (PD.enc l).length + 1 ≤ 1024 ∧ PO.encR l = (PD.enc l ++ [255], 0) := by
  unfold PO.encR at h ⊢
  split at h
  · rename_i ok
    split at h
    · cases h
    · rename_i hl
      rw [if_pos ok, if_neg hl]
      exact ⟨ok, by have : (PO.enc l).length = (PD.enc l).length := rfl; omega, rfl⟩
  · cases h
/-! ### the head -/
def headOf (l : List Int) : List Int := pkHead (bA l 0) (lA l 4) (sA l 8) (sA l 10) (lA l 12) (lA l 16) (lA l 20) (lA l 24) (hwOf l)
theorem drop_four {l : List Int} {j : Nat} (h : j + 4 ≤ l.length) : (l.drop j).take 4 = [bA l j, bA l (j + 1), bA l (j + 2), bA l (j + 3)] := by
  rw [bA_of (show j < l.length by omega), bA_of (show j + 1 < l.length by omega), bA_of (show j + 2 < l.length by omega), bA_of (show j + 3 < l.length by omega),
    List.drop_eq_getElem_cons (show j < l.length by omega), List.drop_eq_getElem_cons (show j + 1 < l.length by omega), List.drop_eq_getElem_cons (show j + 2 < l.length by omega), List.drop_eq_getElem_cons (show j + 3 < l.length by omega)]
  rfl
theorem drop_two {l : List Int} {j : Nat} (h : j + 2 ≤ l.length) : (l.drop j).take 2 = [bA l j, bA l (j + 1)] := by
  rw [bA_of (show j < l.length by omega), bA_of (show j + 1 < l.length by omega), List.drop_eq_getElem_cons (show j < l.length by omega), List.drop_eq_getElem_cons (show j + 1 < l.length by omega)]
  rfl
theorem pk2_s {l : List Int} (hb : bytesL l) (j : Nat) : pk2 (sA l j) = [bA l j, bA l (j + 1)] := by
  have h1 := bA_in hb j
  have h2 := bA_in hb (j + 1)
  unfold pk2 sA
  have e1 : (bA l j * 256 + bA l (j + 1)) / 256 % 256 = bA l j := by omega
  have e2 : (bA l j * 256 + bA l (j + 1)) % 256 = bA l (j + 1) := by omega
  rw [e1, e2]
theorem pk4_l {l : List Int} (hb : bytesL l) (j : Nat) : pk4 (lA l j) = [bA l j, bA l (j + 1), bA l (j + 2), bA l (j + 3)] := by
  have h1 := sA_in hb j
  have h2 := sA_in hb (j + 2)
  have e1 : (sA l j * 65536 + sA l (j + 2)) / 65536 = sA l j := by omega
  have e2 : (sA l j * 65536 + sA l (j + 2)) % 65536 = sA l (j + 2) := by omega
  unfold pk4 lA
  rw [e1, e2, pk2_s hb, pk2_s hb]
  rfl
theorem take_add (l : List Int) (j k : Nat) : l.take (j + k) = l.take j ++ (l.drop j).take k := by
  rw [List.take_add]
def padOf (l : List Int) : List Int := (l.drop (28 + (bA l 2).toNat)).take (208 - (bA l 2).toNat)
theorem take_240 {l : List Int} (hl : 240 ≤ l.length) (hn : bA l 2 ≤ 16) (hn0 : 0 ≤ bA l 2) :
    l.take 240 = [bA l 0, bA l 1, bA l 2, bA l 3] ++ [bA l 4, bA l 5, bA l 6, bA l 7] ++ [bA l 8, bA l 9] ++ [bA l 10, bA l 11] ++ ([bA l 12, bA l 13, bA l 14, bA l 15] ++ [bA l 16, bA l 17, bA l 18, bA l 19] ++ [bA l 20, bA l 21, bA l 22, bA l 23] ++ [bA l 24, bA l 25, bA l 26, bA l 27]) ++ hwOf l ++ padOf l ++ [bA l 236, bA l 237, bA l 238, bA l 239] := by
  obtain ⟨n, hn1⟩ : ∃ n : Nat, bA l 2 = n := ⟨(bA l 2).toNat, by omega⟩
  unfold hwOf padOf
  rw [show (240 : Nat) = 28 + (bA l 2).toNat + (208 - (bA l 2).toNat) + 4 from by omega, take_add, take_add, take_add]
  rw [show 28 + (bA l 2).toNat + (208 - (bA l 2).toNat) = 236 from by omega, drop_four (j := 236) (by omega)]
  congr 2
  congr 1
  rw [show (28 : Nat) = 4 + 4 + 2 + 2 + 4 + 4 + 4 + 4 from rfl, take_add, take_add, take_add, take_add, take_add, take_add, take_add]
  rw [show l.take 4 = (l.drop 0).take 4 from rfl, drop_four (j := 0) (by omega), drop_four (j := 4) (by omega), drop_two (j := 4 + 4) (by omega), drop_two (j := 4 + 4 + 2) (by omega), drop_four (j := 4 + 4 + 2 + 2) (by omega), drop_four (j := 4 + 4 + 2 + 2 + 4) (by omega), drop_four (j := 4 + 4 + 2 + 2 + 4 + 4) (by omega), drop_four (j := 4 + 4 + 2 + 2 + 4 + 4 + 4) (by omega)]
  simp
theorem head_of {l : List Int} (hb : bytesL l) (hl : 240 ≤ l.length) (hn : bA l 2 ≤ 16) :
    headOf l = [bA l 0, 1, bA l 2, 0] ++ [bA l 4, bA l 5, bA l 6, bA l 7] ++ [bA l 8, bA l 9] ++ [bA l 10, bA l 11] ++ ([bA l 12, bA l 13, bA l 14, bA l 15] ++ [bA l 16, bA l 17, bA l 18, bA l 19] ++ [bA l 20, bA l 21, bA l 22, bA l 23] ++ [bA l 24, bA l 25, bA l 26, bA l 27]) ++ hwOf l ++ List.replicate (208 - (bA l 2).toNat) 0 ++ [99, 130, 83, 99] := by
  have h0 := bA_in hb 0
  have h2 := bA_in hb 2
  have hw := hw_len hl hn
  have e0 : bA l 0 % 256 = bA l 0 := by omega
  have e2 : ((hwOf l).length : Int) % 256 = bA l 2 := by rw [hw]; omega
  unfold headOf pkHead pkB pkA pkC
  simp only [List.take_succ_cons, List.take_zero, List.map_cons, List.map_nil, List.flatten_cons, List.flatten_nil, List.append_nil]
  rw [pk4_l hb, pk4_l hb, pk4_l hb, pk4_l hb, pk4_l hb, pk2_s hb, pk2_s hb, e0, e2, hw]
  first
    | rfl
    | simp [List.append_assoc, show ∀ n : Nat, (16 - n) + 192 = 208 - n ∨ True from fun _ => .inr trivial]
    | skip
theorem ck_iff {l : List Int} (hb : bytesL l) : lA l 236 = 1669485411 ↔ [bA l 236, bA l 237, bA l 238, bA l 239] = [99, 130, 83, 99] := by
  have h0 := bA_in hb 236
  have h1 := bA_in hb 237
  have h2 := bA_in hb 238
  have h3 := bA_in hb 239
  simp only [List.cons.injEq, and_true]
  rw [show lA l 236 = (bA l 236 * 256 + bA l 237) * 65536 + (bA l 238 * 256 + bA l 239) from rfl]
  constructor
  · intro h
    exact ⟨by omega, by omega, by omega, by omega⟩
  · rintro ⟨h4, h5, h6, h7⟩
    omega
theorem head_iff {l : List Int} (hb : bytesL l) (hl : 240 ≤ l.length) (hn : bA l 2 ≤ 16) : headOf l = l.take 240 ↔ (bA l 1 = 1 ∧ bA l 3 = 0 ∧ (∀ x ∈ padOf l, x = 0) ∧ lA l 236 = 1669485411) := by
  have h2 := bA_in hb 2
  have hpl : (padOf l).length = 208 - (bA l 2).toNat := by unfold padOf; rw [List.length_take, List.length_drop]; omega
  rw [head_of hb hl hn, take_240 hl hn h2.1, ck_iff hb]
  constructor
  · intro h
    obtain ⟨h1, hc⟩ := List.append_inj' h rfl
    obtain ⟨h2, hp⟩ := List.append_inj' h1 (by rw [List.length_replicate, hpl])
    obtain ⟨h3, _⟩ := List.append_inj' h2 rfl
    simp only [List.cons_append, List.nil_append, List.cons.injEq] at h3
    refine ⟨h3.2.1.symm, h3.2.2.2.1.symm, fun x hx => ?_, hc.symm⟩
    rw [← hp] at hx
    exact (List.mem_replicate.1 hx).2
  · rintro ⟨h1, h3, hp, hc⟩
    rw [h1, h3, hc, List.eq_replicate_iff.2 ⟨hpl, hp⟩]

/-! ### Decode -/
theorem decode_eq (l : List Int) (hb : bytesL l) (hl : l.length < 1099511627776) : packet_Decode.f l = some (pdR l) := if_pos ⟨hb, hl⟩
theorem head_len {l : List Int} (hl : 240 ≤ l.length) (hn : bA l 2 ≤ 16) (hn0 : 0 ≤ bA l 2) : (headOf l).length = 240 := by
  have hw := hw_len hl hn
  unfold headOf pkHead pkB pkA pkC
  simp [pk4_len, pk2, hw]
  omega
theorem bytes_head {l : List Int} (hb : bytesL l) (hl : 240 ≤ l.length) (hn : bA l 2 ≤ 16) : bytesL (headOf l) := by
  rw [head_of hb hl hn]
  intro x hx
  simp only [List.mem_append, List.mem_cons, List.not_mem_nil, or_false] at hx
  have hwb : ∀ y ∈ hwOf l, 0 ≤ y ∧ y ≤ 255 := fun y hy => hb y (List.mem_of_mem_drop (List.mem_of_mem_take hy))
  have hz : ∀ y ∈ List.replicate (208 - (bA l 2).toNat) (0 : Int), 0 ≤ y ∧ y ≤ 255 := fun y hy => by rw [(List.mem_replicate.1 hy).2]; omega
  have hA := fun j => bA_in hb j
  repeat' (first | (rcases hx with hx | hx) | (rcases hx with rfl | hx))
  all_goals first | exact hwb _ hx | exact hz _ hx | (subst hx; first | exact hA _ | omega) | exact hA _ | omega
/-! ### what is encoded is decoded -/
theorem bytes_app {a b : List Int} (ha : bytesL a) (hb : bytesL b) : bytesL (a ++ b) := fun x hx => by
  rcases List.mem_append.1 hx with h | h
  · exact ha x h
  · exact hb x h
theorem bytes_pk2 (n : Int) : bytesL (pk2 n) := by
  intro x hx
  simp only [pk2, List.mem_cons, List.not_mem_nil, or_false] at hx
  rcases hx with rfl | rfl <;> omega
theorem bytes_pk4 (n : Int) : bytesL (pk4 n) := bytes_app (bytes_pk2 _) (bytes_pk2 _)
theorem bytes_zeros (n : Nat) : bytesL (List.replicate n 0) := fun x hx => by rw [(List.mem_replicate.1 hx).2]; omega
theorem bytes_pkHead (a0 a1 a2 a3 a4 a5 a6 a7 : Int) {l8 : List Int} (hb : bytesL l8) : bytesL (pkHead a0 a1 a2 a3 a4 a5 a6 a7 l8) := by
  unfold pkHead pkB pkA pkC
  have hh : bytesL [a0 % 256, 1, (l8.length : Int) % 256, 0] := by
    intro x hx
    simp only [List.mem_cons, List.not_mem_nil, or_false] at hx
    rcases hx with rfl | rfl | rfl | rfl <;> omega
  have hc : bytesL (List.map pk4 ([a4, a5, a6, a7].take 4)).flatten := by
    intro x hx
    obtain ⟨y, hy, hxy⟩ := List.mem_flatten.1 hx
    obtain ⟨z, _, rfl⟩ := List.mem_map.1 hy
    exact bytes_pk4 z x hxy
  exact bytes_app (bytes_app (bytes_app (bytes_app (bytes_app (bytes_app (bytes_app hh (bytes_pk4 _)) (bytes_pk2 _)) (bytes_pk2 _)) hc) hb) (bytes_zeros _)) (bytes_pk4 _)
theorem pkHead_len (a0 a1 a2 a3 a4 a5 a6 a7 : Int) {l8 : List Int} (h : l8.length ≤ 16) : (pkHead a0 a1 a2 a3 a4 a5 a6 a7 l8).length = 240 := by
  unfold pkHead pkB pkA pkC
  simp [pk4_len, pk2]
  omega
theorem pkHead_cons (a0 a1 a2 a3 a4 a5 a6 a7 : Int) (l8 t : List Int) : pkHead a0 a1 a2 a3 a4 a5 a6 a7 l8 ++ t =
    a0 % 256 :: 1 :: (l8.length : Int) % 256 :: 0 :: a1 / 65536 / 256 % 256 :: a1 / 65536 % 256 :: a1 % 65536 / 256 % 256 :: a1 % 65536 % 256 :: a2 / 256 % 256 :: a2 % 256 :: a3 / 256 % 256 :: a3 % 256 ::
    a4 / 65536 / 256 % 256 :: a4 / 65536 % 256 :: a4 % 65536 / 256 % 256 :: a4 % 65536 % 256 :: a5 / 65536 / 256 % 256 :: a5 / 65536 % 256 :: a5 % 65536 / 256 % 256 :: a5 % 65536 % 256 ::
    a6 / 65536 / 256 % 256 :: a6 / 65536 % 256 :: a6 % 65536 / 256 % 256 :: a6 % 65536 % 256 :: a7 / 65536 / 256 % 256 :: a7 / 65536 % 256 :: a7 % 65536 / 256 % 256 :: a7 % 65536 % 256 ::
    (l8 ++ (List.replicate (208 - l8.length) 0 ++ (pk4 1669485411 ++ t))) := by
  unfold pkHead pkB pkA pkC
  simp only [List.take_succ_cons, List.take_zero, List.map_cons, List.map_nil, List.flatten_cons, List.flatten_nil, List.append_nil, List.append_assoc]
  rfl
theorem four_back {a : Int} (h : 0 ≤ a ∧ a < 4294967296) : (a / 65536 / 256 % 256 * 256 + a / 65536 % 256) * 65536 + (a % 65536 / 256 % 256 * 256 + a % 65536 % 256) = a := by omega
theorem pd_enc (a0 a1 a2 a3 a4 a5 a6 a7 : Int) (l8 t : List Int) (h0 : a0 = 1 ∨ a0 = 2) (h8 : 1 ≤ l8.length ∧ l8.length ≤ 16) (h2 : 0 ≤ a2 ∧ a2 ≤ 65535) (h3 : 0 ≤ a3 ∧ a3 ≤ 65535) (hu : pkOk a1 a4 a5 a6 a7) (hb8 : bytesL l8) (hbt : bytesL t) (ho : (odR t).2 = 0) :
    pdR (pkHead a0 a1 a2 a3 a4 a5 a6 a7 l8 ++ t) = (a0, a1, a2, a3, a4, a5, a6, a7, l8, (odR t).1, 0) := by
  obtain ⟨hu1, hu4, hu5, hu6, hu7⟩ := hu
  obtain ⟨c, hc⟩ : ∃ c, c = pkHead a0 a1 a2 a3 a4 a5 a6 a7 l8 ++ t := ⟨_, rfl⟩
  have hcc := hc.trans (pkHead_cons a0 a1 a2 a3 a4 a5 a6 a7 l8 t)
  have hbc : bytesL c := by rw [hc]; exact bytes_app (bytes_pkHead _ _ _ _ _ _ _ _ hb8) hbt
  have hlh := pkHead_len a0 a1 a2 a3 a4 a5 a6 a7 h8.2
  have b0 : bA c 0 = a0 := by
    have : bA c 0 = a0 % 256 := by rw [hcc]; rfl
    rw [this]; rcases h0 with rfl | rfl <;> rfl
  have b2 : bA c 2 = (l8.length : Int) := by
    have : bA c 2 = (l8.length : Int) % 256 := by rw [hcc]; rfl
    rw [this]; omega
  have x1 : lA c 4 = a1 := by
    have : lA c 4 = (a1 / 65536 / 256 % 256 * 256 + a1 / 65536 % 256) * 65536 + (a1 % 65536 / 256 % 256 * 256 + a1 % 65536 % 256) := by rw [hcc]; rfl
    rw [this, four_back hu1]
  have x4 : lA c 12 = a4 := by
    have : lA c 12 = (a4 / 65536 / 256 % 256 * 256 + a4 / 65536 % 256) * 65536 + (a4 % 65536 / 256 % 256 * 256 + a4 % 65536 % 256) := by rw [hcc]; rfl
    rw [this, four_back hu4]
  have x5 : lA c 16 = a5 := by
    have : lA c 16 = (a5 / 65536 / 256 % 256 * 256 + a5 / 65536 % 256) * 65536 + (a5 % 65536 / 256 % 256 * 256 + a5 % 65536 % 256) := by rw [hcc]; rfl
    rw [this, four_back hu5]
  have x6 : lA c 20 = a6 := by
    have : lA c 20 = (a6 / 65536 / 256 % 256 * 256 + a6 / 65536 % 256) * 65536 + (a6 % 65536 / 256 % 256 * 256 + a6 % 65536 % 256) := by rw [hcc]; rfl
    rw [this, four_back hu6]
  have x7 : lA c 24 = a7 := by
    have : lA c 24 = (a7 / 65536 / 256 % 256 * 256 + a7 / 65536 % 256) * 65536 + (a7 % 65536 / 256 % 256 * 256 + a7 % 65536 % 256) := by rw [hcc]; rfl
    rw [this, four_back hu7]
  have x2 : sA c 8 = a2 := by
    have : sA c 8 = a2 / 256 % 256 * 256 + a2 % 256 := by rw [hcc]; rfl
    rw [this]; omega
  have x3 : sA c 10 = a3 := by
    have : sA c 10 = a3 / 256 % 256 * 256 + a3 % 256 := by rw [hcc]; rfl
    rw [this]; omega
  have hw : hwOf c = l8 := by
    unfold hwOf
    rw [b2, Int.toNat_natCast]
    have : c.drop 28 = l8 ++ (List.replicate (208 - l8.length) 0 ++ (pk4 1669485411 ++ t)) := by rw [hcc]; rfl
    rw [this, List.take_left]
  have hl : 240 ≤ c.length := by rw [hc, List.length_append]; omega
  have hh : headOf c = c.take 240 := by
    unfold headOf
    rw [b0, x1, x2, x3, x4, x5, x6, x7, hw, hc, List.take_append_of_le_length (by omega), List.take_of_length_le (by omega)]
  have hd : c.drop 240 = t := by rw [hc, List.drop_append_of_le_length (by omega), List.drop_of_length_le (by omega)]; rfl
  have hn : bA c 2 ≤ 16 := by rw [b2]; omega
  obtain ⟨g1, g3, gp, gc⟩ := (head_iff hbc hl hn).1 hh
  rw [← hc]
  unfold pdR
  rw [if_pos ⟨⟨hl, g1, hn, g3, gp, gc, by rw [hd]; exact ho⟩, by rw [b0]; exact h0, by rw [b2]; omega⟩, b0, x1, x2, x3, x4, x5, x6, x7, hw, hd]
theorem enc_two (l : List OptP) : l.length * 2 ≤ (PD.enc l).length := by
  induction l with
  | nil => simp
  | cons x l ih =>
    have : PD.enc (x :: l) = PD.enc1 x ++ PD.enc l := by simp [PD.enc]
    rw [this, List.length_append, PD.enc1_len, List.length_cons]
    omega
theorem few_of {os : List OptP} (ok : ∀ x ∈ os, PD.okOpt x) (h : (PD.enc os).length + 1 ≤ 1024) : PO.few os := by
  have := enc_two os
  exact ⟨by omega, fun x hx => by have := (ok x hx).2.2; omega⟩
theorem bytes_enc {os : List OptP} (hb : ∀ x ∈ os, bytesL x.f1) : bytesL (PD.enc os ++ [255]) := bytes_app (PD.enc_bytes os hb) (fun x hx => by rw [List.mem_singleton.1 hx]; omega)
end Go.Proofs.YtmbfdmceameghaaDoor.PQ
end

section
namespace Go.Proofs.YtmbfdmceameghaaDoor.PQ
open Go.RowKit Go.Proofs.YtmbfdmceameghaaDoor Go.Proofs.YtmbfdmceameghaaDoor.Pr Go.Proofs.YtmbfdmceameghaaDoorW.PrintWords Go.Proofs.YtmbfdmceameghaaDoorW.PrintLast Go.Proofs.YtmbfdmceameghaaDoorW.PrintMore
set_option linter.unusedVariables false
set_option linter.unusedSimpArgs false

theorem back_pure (l : List Int) (hb : bytesL l) (hl : l.length ≤ 3000) : pdR l = (0, 0, 0, 0, 0, 0, 0, 0, [], [], 2) ∨
    ∃ b0 b1 b2 b3 b4 b5 b6 b7 m8 m9 ds, pdR l = (b0, b1, b2, b3, b4, b5, b6, b7, m8, m9, 0) ∧ pkOk b1 b4 b5 b6 b7 ∧ PO.few m9 ∧ m9.length ≤ 1000000 ∧ PP.encPk b0 b1 b2 b3 b4 b5 b6 b7 m8 m9 = (ds, 0) ∧ bytesL ds ∧ 240 ≤ ds.length ∧ ds.length ≤ l.length ∧ ds.take 240 = l.take 240 ∧ pdR ds = (b0, b1, b2, b3, b4, b5, b6, b7, m8, m9, 0) := by
  by_cases c : rdOk l ∧ (bA l 0 = 1 ∨ bA l 0 = 2) ∧ 1 ≤ bA l 2
  · right
    have e : pdR l = (bA l 0, lA l 4, sA l 8, sA l 10, lA l 12, lA l 16, lA l 20, lA l 24, hwOf l, (odR (l.drop 240)).1, 0) := if_pos c
    obtain ⟨⟨hl2, g1, hn, g3, gp, gc, go⟩, h01, h12⟩ := c
    have h2 := bA_in hb 2
    rcases odR_cases (l.drop 240) (fun x hx => hb x (List.mem_of_mem_drop hx)) with e1 | ⟨os, e1, ok, hlen, h1024, hob⟩
    · rw [e1] at go; cases go
    rw [e1] at e
    simp only at e
    rw [List.length_drop] at hlen h1024
    have hen := encR_of ok (by omega)
    have a4 := lA_in hb 4
    have a12 := lA_in hb 12
    have a16 := lA_in hb 16
    have a20 := lA_in hb 20
    have a24 := lA_in hb 24
    have hu : pkOk (lA l 4) (lA l 12) (lA l 16) (lA l 20) (lA l 24) := ⟨by omega, by omega, by omega, by omega, by omega⟩
    have hpk : PP.okPk (bA l 0) (sA l 8) (sA l 10) (hwOf l) os := (okPk_of hb hl2 hn os (by rw [hen])).2 ⟨h01, h12⟩
    have hh : pkHead (bA l 0) (lA l 4) (sA l 8) (sA l 10) (lA l 12) (lA l 16) (lA l 20) (lA l 24) (hwOf l) = headOf l := rfl
    have hwl := hw_len hl2 hn
    have hod := odR_enc os ok (by omega)
    have hlh := head_len hl2 hn h2.1
    have hbw : bytesL (hwOf l) := fun x hx => hb x (List.mem_of_mem_drop (List.mem_of_mem_take hx))
    have hdec := pd_enc (bA l 0) (lA l 4) (sA l 8) (sA l 10) (lA l 12) (lA l 16) (lA l 20) (lA l 24) (hwOf l) (PD.enc os ++ [255]) h01 ⟨by omega, by omega⟩ (sA_in hb 8) (sA_in hb 10) hu hbw (bytes_enc hob) (by rw [hod])
    rw [hh, hod] at hdec
    have hos := enc_two os
    refine ⟨_, _, _, _, _, _, _, _, _, _, headOf l ++ (PD.enc os ++ [255]), e, hu, few_of ok (by omega), by omega, ?_, bytes_app (bytes_head hb hl2 hn) (bytes_enc hob), by simp; omega, by simp; omega, ?_, hdec⟩
    · unfold PP.encPk
      rw [if_pos hpk, hen, hh]
    · rw [List.take_append_of_le_length (by omega), List.take_of_length_le (by omega)]
      exact (head_iff hb hl2 hn).2 ⟨g1, g3, gp, gc⟩
  · exact .inl (if_neg c)
theorem enc_back (a0 a1 a2 a3 a4 a5 a6 a7 : Int) (l8 : List Int) (l9 : List OptP) (hu : pkOk a1 a4 a5 a6 a7) (hb8 : bytesL l8) (hb9 : ∀ x ∈ l9, bytesL x.f1) : PP.encPk a0 a1 a2 a3 a4 a5 a6 a7 l8 l9 = ([], 1) ∨
    ∃ cs, PP.encPk a0 a1 a2 a3 a4 a5 a6 a7 l8 l9 = (cs, 0) ∧ bytesL cs ∧ cs.length < 1099511627776 ∧ pdR cs = (a0, a1, a2, a3, a4, a5, a6, a7, l8, l9, 0) := by
  by_cases cp : PP.okPk a0 a2 a3 l8 l9
  · right
    obtain ⟨k0, k8, k2, k3, ke⟩ := id cp
    obtain ⟨ok, hlen, hen⟩ := encR_ok ke
    have hod := odR_enc l9 ok hlen
    have hdec := pd_enc a0 a1 a2 a3 a4 a5 a6 a7 l8 (PD.enc l9 ++ [255]) k0 k8 k2 k3 hu hb8 (bytes_enc hb9) (by rw [hod])
    rw [hod] at hdec
    have hlh := pkHead_len a0 a1 a2 a3 a4 a5 a6 a7 k8.2
    refine ⟨_, by unfold PP.encPk; rw [if_pos cp, hen], bytes_app (bytes_pkHead _ _ _ _ _ _ _ _ hb8) (bytes_enc hb9), by simp; omega, hdec⟩
  · exact .inl (if_neg cp)
end Go.Proofs.YtmbfdmceameghaaDoor.PQ
end

section
-- written by a program of this session (wip/tools/gen.py) over the kit's print
namespace Go.Proofs.YtmbfdmceameghaaDoor.Pr
open Go.RowKit Go.Proofs.YtmbfdmceameghaaDoorW.PrintWords Go.Proofs.YtmbfdmceameghaaDoorW.PrintLast Go.Proofs.YtmbfdmceameghaaDoorW.PrintMore
attribute [local go_sem] max2_int min2_int max_two min_two max_three min_three max_four min_four   -- for this text's walks alone
set_option linter.unusedVariables false
set_option linter.unusedSimpArgs false

/-! ### lessorlaw03_awake: function 5 -/
def lessorlaw03_awake.f (k : Nat)  : Option (Bool) := (packet_Encode.f k 1 258 0 0 0 0 0 0 (([7] : List Int)) (([(⟨53, (([3] : List Int))⟩ : S39)] : List (S39)))).bind fun bt110 => (if bt110.2 = 0 then (if (bt110.1.length : Int) = 244 then (if 6 < (bt110.1.length : Int) then (if (rd bt110.1 6) = 1 then (if 7 < (bt110.1.length : Int) then (if (rd bt110.1 7) = 2 then (if 28 < (bt110.1.length : Int) then (if (rd bt110.1 28) = 7 then (if 236 < (bt110.1.length : Int) then (if (rd bt110.1 236) = 99 then (if 240 < (bt110.1.length : Int) then (some ((rd bt110.1 240) == 53)) else (none)) else (some false)) else (none)) else (some false)) else (none)) else (some false)) else (none)) else (some false)) else (none)) else (some false)) else (some false))
theorem lessorlaw03_awake.mono : ∀ k, LeO (lessorlaw03_awake.f k ) (lessorlaw03_awake.f (k + 1) ) := by
 intro  k
 unfold lessorlaw03_awake.f
 repeat' first
   | (with_reducible exact packet_Encode.mono _ _ _ _ _ _ _ _ _ _ _)
   | (with_reducible exact LeO.refl _)
   | (with_reducible exact LeO.none _)
   | (with_reducible refine LeO.ite ?_ ?_)
   | (with_reducible refine LeO.bind ?_ (fun _ => ?_))
   | exact packet_Encode.mono _ _ _ _ _ _ _ _ _ _ _
   | exact LeO.none _
   | refine LeO.ite ?_ ?_
   | refine LeO.bind ?_ (fun _ => ?_)
set_option maxHeartbeats 8000000 in
set_option maxRecDepth 100000 in
theorem lessorlaw03_awake.calls (k : Nat)  (r : Bool) (w : World) (h : lessorlaw03_awake.f k  = some r) :
  Calls Tryd.prog 5 #[] w fun e w' => e = .returned (.bool r) ∧ Below w.heap.size w w' := by
 have hu39 := Tryd.underlying39
 have hu28 := Tryd.underlying28
 have HB := Aside0.mk (Below.refl w.heap.size w)
 have H : ((packet_Encode.f k 1 258 0 0 0 0 0 0 (([7] : List Int)) (([(⟨53, (([3] : List Int))⟩ : S39)] : List (S39)))).bind fun bt110 => (if bt110.2 = 0 then (if (bt110.1.length : Int) = 244 then (if 6 < (bt110.1.length : Int) then (if (rd bt110.1 6) = 1 then (if 7 < (bt110.1.length : Int) then (if (rd bt110.1 7) = 2 then (if 28 < (bt110.1.length : Int) then (if (rd bt110.1 28) = 7 then (if 236 < (bt110.1.length : Int) then (if (rd bt110.1 236) = 99 then (if 240 < (bt110.1.length : Int) then (some ((rd bt110.1 240) == 53)) else (none)) else (some false)) else (none)) else (some false)) else (none)) else (some false)) else (none)) else (some false)) else (none)) else (some false)) else (some false))) = some r := h
 clear h
 obtain ⟨y101, hy101⟩ : ∃ y_ : List Int, y_ = (([7] : List Int)) := ⟨_, rfl⟩
 replace H : ((packet_Encode.f k 1 258 0 0 0 0 0 0 y101 (([(⟨53, (([3] : List Int))⟩ : S39)] : List (S39)))).bind fun bt110 => (if bt110.2 = 0 then (if (bt110.1.length : Int) = 244 then (if 6 < (bt110.1.length : Int) then (if (rd bt110.1 6) = 1 then (if 7 < (bt110.1.length : Int) then (if (rd bt110.1 7) = 2 then (if 28 < (bt110.1.length : Int) then (if (rd bt110.1 28) = 7 then (if 236 < (bt110.1.length : Int) then (if (rd bt110.1 236) = 99 then (if 240 < (bt110.1.length : Int) then (some ((rd bt110.1 240) == 53)) else (none)) else (some false)) else (none)) else (some false)) else (none)) else (some false)) else (none)) else (some false)) else (none)) else (some false)) else (some false))) = some r := by first | (rw [hy101]; with_reducible exact H) | (have H2_ := (Option.bind_some _ _).symm.trans H; rw [hy101]; with_reducible exact H2_) | (have H2_ := (Option.bind_some _ _).symm.trans H; with_reducible exact H2_) | with_reducible exact H | (rw [hy101]; exact H) | exact H
 have Ny101 := Aside0.mk hy101
 clear hy101
 obtain ⟨y104, hy104⟩ : ∃ y_ : List Int, y_ = (([3] : List Int)) := ⟨_, rfl⟩
 replace H : ((packet_Encode.f k 1 258 0 0 0 0 0 0 y101 (([(⟨53, y104⟩ : S39)] : List (S39)))).bind fun bt110 => (if bt110.2 = 0 then (if (bt110.1.length : Int) = 244 then (if 6 < (bt110.1.length : Int) then (if (rd bt110.1 6) = 1 then (if 7 < (bt110.1.length : Int) then (if (rd bt110.1 7) = 2 then (if 28 < (bt110.1.length : Int) then (if (rd bt110.1 28) = 7 then (if 236 < (bt110.1.length : Int) then (if (rd bt110.1 236) = 99 then (if 240 < (bt110.1.length : Int) then (some ((rd bt110.1 240) == 53)) else (none)) else (some false)) else (none)) else (some false)) else (none)) else (some false)) else (none)) else (some false)) else (none)) else (some false)) else (some false))) = some r := by first | (rw [hy104]; with_reducible exact H) | (have H2_ := (Option.bind_some _ _).symm.trans H; rw [hy104]; with_reducible exact H2_) | (have H2_ := (Option.bind_some _ _).symm.trans H; with_reducible exact H2_) | with_reducible exact H | (rw [hy104]; exact H) | exact H
 have Ny104 := Aside0.mk hy104
 clear hy104
 obtain ⟨y107, hy107⟩ : ∃ y_ : List (S39), y_ = (([(⟨53, y104⟩ : S39)] : List (S39))) := ⟨_, rfl⟩
 replace H : ((packet_Encode.f k 1 258 0 0 0 0 0 0 y101 y107).bind fun bt110 => (if bt110.2 = 0 then (if (bt110.1.length : Int) = 244 then (if 6 < (bt110.1.length : Int) then (if (rd bt110.1 6) = 1 then (if 7 < (bt110.1.length : Int) then (if (rd bt110.1 7) = 2 then (if 28 < (bt110.1.length : Int) then (if (rd bt110.1 28) = 7 then (if 236 < (bt110.1.length : Int) then (if (rd bt110.1 236) = 99 then (if 240 < (bt110.1.length : Int) then (some ((rd bt110.1 240) == 53)) else (none)) else (some false)) else (none)) else (some false)) else (none)) else (some false)) else (none)) else (some false)) else (none)) else (some false)) else (some false))) = some r := by first | (rw [hy107]; with_reducible exact H) | (have H2_ := (Option.bind_some _ _).symm.trans H; rw [hy107]; with_reducible exact H2_) | (have H2_ := (Option.bind_some _ _).symm.trans H; with_reducible exact H2_) | with_reducible exact H | (rw [hy107]; exact H) | exact H
 have Ny107 := Aside0.mk hy107
 clear hy107
 replace H := Option.bind_eq_some_iff.mp H
 obtain ⟨⟨t110, t113⟩, A10, H⟩ := H
 replace H : (if t113 = 0 then (if (t110.length : Int) = 244 then (if 6 < (t110.length : Int) then (if (rd t110 6) = 1 then (if 7 < (t110.length : Int) then (if (rd t110 7) = 2 then (if 28 < (t110.length : Int) then (if (rd t110 28) = 7 then (if 236 < (t110.length : Int) then (if (rd t110 236) = 99 then (if 240 < (t110.length : Int) then (some ((rd t110 240) == 53)) else (none)) else (some false)) else (none)) else (some false)) else (none)) else (some false)) else (none)) else (some false)) else (none)) else (some false)) else (some false)) = some r := H
 have A1 := Aside0.mk A10
 clear A10
 by_cases c2 : t113 = 0
 ·rw [if_pos c2] at H
  have c2b0 : (t113 == 0) = true := beq_iff_eq.mpr c2
  have c2b1 : (t113 != 0) = false := bne_eq_false_iff_eq.mpr c2
  clear c2
  by_cases c3 : (t110.length : Int) = 244
  ·rw [if_pos c3] at H
   have c3b0 : ((t110.length : Int) == 244) = true := beq_iff_eq.mpr c3
   have c3b1 : ((t110.length : Int) != 244) = false := bne_eq_false_iff_eq.mpr c3
   clear c3
   by_cases c4 : 6 < (t110.length : Int)
   ·rw [if_pos c4] at H
    have c4b0 : decide (6 < (t110.length : Int)) = true := decide_eq_true c4
    have c4b1 : decide (6 < t110.length) = true := decide_eq_true (by omega)
    clear c4
    by_cases c5 : (rd t110 6) = 1
    ·rw [if_pos c5] at H
     have c5b0 : ((rd t110 6) == 1) = true := beq_iff_eq.mpr c5
     have c5b1 : ((rd t110 6) != 1) = false := bne_eq_false_iff_eq.mpr c5
     clear c5
     by_cases c6 : 7 < (t110.length : Int)
     ·rw [if_pos c6] at H
      have c6b0 : decide (7 < (t110.length : Int)) = true := decide_eq_true c6
      have c6b1 : decide (7 < t110.length) = true := decide_eq_true (by omega)
      clear c6
      by_cases c7 : (rd t110 7) = 2
      ·rw [if_pos c7] at H
       have c7b0 : ((rd t110 7) == 2) = true := beq_iff_eq.mpr c7
       have c7b1 : ((rd t110 7) != 2) = false := bne_eq_false_iff_eq.mpr c7
       clear c7
       by_cases c8 : 28 < (t110.length : Int)
       ·rw [if_pos c8] at H
        have c8b0 : decide (28 < (t110.length : Int)) = true := decide_eq_true c8
        have c8b1 : decide (28 < t110.length) = true := decide_eq_true (by omega)
        clear c8
        by_cases c9 : (rd t110 28) = 7
        ·rw [if_pos c9] at H
         have c9b0 : ((rd t110 28) == 7) = true := beq_iff_eq.mpr c9
         have c9b1 : ((rd t110 28) != 7) = false := bne_eq_false_iff_eq.mpr c9
         clear c9
         by_cases c10 : 236 < (t110.length : Int)
         ·rw [if_pos c10] at H
          have c10b0 : decide (236 < (t110.length : Int)) = true := decide_eq_true c10
          have c10b1 : decide (236 < t110.length) = true := decide_eq_true (by omega)
          clear c10
          by_cases c11 : (rd t110 236) = 99
          ·rw [if_pos c11] at H
           have c11b0 : ((rd t110 236) == 99) = true := beq_iff_eq.mpr c11
           have c11b1 : ((rd t110 236) != 99) = false := bne_eq_false_iff_eq.mpr c11
           clear c11
           by_cases c12 : 240 < (t110.length : Int)
           ·rw [if_pos c12] at H
            have c12b0 : decide (240 < (t110.length : Int)) = true := decide_eq_true c12
            have c12b1 : decide (240 < t110.length) = true := decide_eq_true (by omega)
            clear c12
            obtain rfl := Option.some.inj H
            go_enter Tryd.func5, Tryd.ntmps5
            go_wp2_with (first | ((with_reducible refine gate_dst (N := 4) rfl ?_); (try (refine gate_guard (by rfl) ?_; dsimp only)); refine Kd.R_lit (Kd.int .u8) _ 5 ?hg_1 (N := 4) ?hd_1 (xs := ([7] : List Int)) (inner := [.int .u8 7]) (ok := fun _ => True) (okp := fun _ => True) ?hr_1 ?hp_1 (fun _ hk => hk) trivial (Below.refl _ _) (Nat.le_refl _) (by simp) ?_; (case hd_1 => rfl); (case hg_1 => rfl); (case hr_1 => first | (go_simp; done) | (go_simp; rfl)); (case hp_1 => exact (Reps.one (show Kd.M (Kd.int .u8) _ _ _ 7 [.int .u8 7] from rfl) (Reps.none _ _))); intro v102 w13 ho14 hb hg_ hnew_; clear hg_ hnew_; (first | rw [← Ny101.out] at ho14 | (simp only [Int.reduceToNat] at ho14; rw [← Ny101.out] at ho14)); have n0_ := Aside0.mk (Kd.R_lower ho14 (below_size (by repeat (first | (with_reducible first | exact HB.out | apply below_alloc | apply pw_below_drewN | apply below_drew1) | exact HB.out)))); have n1_ := Aside0.mk (below_step (by repeat (first | (with_reducible first | exact HB.out | apply below_alloc | apply pw_below_drewN | apply below_drew1) | exact HB.out)) hb); clear HB; have HO103 := n0_; have HB := n1_; clear n0_ n1_; clear hb ho14) | ((with_reducible refine gate_dst (N := 5) rfl ?_); (try (refine gate_guard (by rfl) ?_; dsimp only)); refine Kd.R_lit (Kd.int .u8) _ 5 ?hg_2 (N := 5) ?hd_2 (xs := ([3] : List Int)) (inner := [.int .u8 3]) (ok := fun _ => True) (okp := fun _ => True) ?hr_2 ?hp_2 (fun _ hk => hk) trivial (Below.refl _ _) (Nat.le_refl _) (by simp) ?_; (case hd_2 => rfl); (case hg_2 => rfl); (case hr_2 => first | (go_simp; done) | (go_simp; rfl)); (case hp_2 => exact (Reps.one (show Kd.M (Kd.int .u8) _ _ _ 3 [.int .u8 3] from rfl) (Reps.none _ _))); intro v105 w15 ho16 hb hg_ hnew_; clear hg_ hnew_; (first | rw [← Ny104.out] at ho16 | (simp only [Int.reduceToNat] at ho16; rw [← Ny104.out] at ho16)); have n0_ := Aside0.mk (Kd.R_elder' (by (with_reducible repeat (first | apply Kd.R_alloc | apply Kd.R_drewN | apply Kd.R_drew)); exact HO103.out) (Kd.R_base ho16) hb); have n1_ := Aside0.mk (Kd.R_lower (Kd.R_new' ho16 (Kd.R_lt (by (with_reducible repeat (first | apply Kd.R_alloc | apply Kd.R_drewN | apply Kd.R_drew)); exact HO103.out))) (below_size (by repeat (first | (with_reducible first | exact HB.out | apply below_alloc | apply pw_below_drewN | apply below_drew1) | exact HB.out)))); have n2_ := Aside0.mk (below_step (by repeat (first | (with_reducible first | exact HB.out | apply below_alloc | apply pw_below_drewN | apply below_drew1) | exact HB.out)) hb); clear HO103; clear HB; have HO103 := n0_; have HO106 := n1_; have HB := n2_; clear n0_ n1_ n2_; clear hb ho16; obtain ⟨Ao17, co17, eo17⟩ := Kd.R_slice HO106.out; subst eo17) | ((with_reducible refine gate_dst (N := 7) rfl ?_); (try (refine gate_guard (by rfl) ?_; dsimp only)); refine Kd.N_lit k39 _ 39 ?hg_3 (N' := 7) ?hd_3 (xs := ([(⟨53, y104⟩ : S39)] : List (S39))) (inner := [.int .i64 53, .slice Ao17 y104.length co17]) (ok := (fun k_ => some k_ ≠ (v102 : Value).ownBlock)) (okp := (fun k_ => some k_ ≠ (v102 : Value).ownBlock)) ?hr_3 ?hp_3 (fun _ hk => hk) ((show ∀ k_, w15.heap.size ≤ k_ → (fun k_ => some k_ ≠ (v102 : Value).ownBlock) k_ from fun k_ hk => Kd.fresh' (Kd.R_lt (by (with_reducible repeat (first | apply Kd.R_alloc | apply Kd.R_drewN | apply Kd.R_drew)); exact HO103.out)) k_ hk) _ (Nat.le_refl _)) (Below.refl _ _) (Nat.le_refl _) (by simp) ?_; (case hd_3 => rfl); (case hg_3 => rfl); (case hr_3 => first | (go_simp; done) | (go_simp; rfl)); (case hp_3 => exact (Reps.c2 (show Kd.FK k39 _ _ (⟨53, y104⟩ : S39) [.int .i64 53, .slice Ao17 y104.length co17] from (k39_mkF _ _ (⟨53, y104⟩ : S39) (Kd.R_reads' (Kd.R_mono (ok' := (fun k_ => some k_ ≠ (v102 : Value).ownBlock)) (HO106.out) (fun k_ hk => hk.2))).2.1 (Kd.R_F (Kd.R_mono (ok' := (fun k_ => some k_ ≠ (v102 : Value).ownBlock)) (HO106.out) (fun k_ hk => hk.2))))) (Reps.none _ _))); intro v108 w18 ho19 hb hg_ hnew_; clear hg_ hnew_; (first | rw [← Ny107.out] at ho19 | (simp only [Int.reduceToNat] at ho19; rw [← Ny107.out] at ho19)); have n0_ := Aside0.mk (Kd.R_below (by (with_reducible repeat (first | apply Kd.R_alloc | apply Kd.R_drewN | apply Kd.R_drew)); exact HO103.out) hb); have n1_ := Aside0.mk (Kd.N_lower ho19 (below_size (by repeat (first | (with_reducible first | exact HB.out | apply below_alloc | apply pw_below_drewN | apply below_drew1) | exact HB.out)))); have n2_ := Aside0.mk (below_step (by repeat (first | (with_reducible first | exact HB.out | apply below_alloc | apply pw_below_drewN | apply below_drew1) | exact HB.out)) hb); clear HO103; clear HB; clear HO106; have HO103 := n0_; have HO109 := n1_; have HB := n2_; clear n0_ n1_ n2_; clear hb ho19; obtain ⟨Ao20, co20, eo20⟩ := Kd.N_slice HO109.out; subst eo20; obtain ⟨Ao21, co21, eo21⟩ := Kd.R_slice HO103.out; subst eo21) | ((with_reducible refine gate_callee (f := 10) rfl ?_); refine goesL_ (some 9) rfl rfl Tryd.func10 (by kernel_rfl) rfl #[.agg #[.int .i64 1, .int .u32 258, .int .i64 0, .int .i64 0, .int .u32 0, .int .u32 0, .int .u32 0, .int .u32 0, .slice Ao21 y101.length co21, .slice Ao20 y107.length co20]] rfl (by (try simp only [List.map_toArray, List.map_cons, List.map_nil]); first | done | rfl | (simp only [List.length_drop, List.length_take]; rfl)) ?_; (with_reducible refine (packet_Encode.calls k 1 258 0 0 0 0 0 0 _ _ y101 _ _ y107 t110 t113 _ ?side1_4 ?side2_4 ?side3_4 ?side4_4 A1.out).mono ?_); (case side1_4 => repeat (first | exact (Kd.R_reads' HO103.out).2.2 | (with_reducible refine Kd.C_alloc ?_ _) | (with_reducible refine Kd.C_drewN ?_ _) | (with_reducible refine Kd.C_drew ?_))); (case side2_4 => exact (Kd.R_reads' HO103.out).2.1); (case side3_4 => repeat (first | exact (Kd.N_reads' HO109.out).2.2 | (with_reducible refine Kd.C_alloc ?_ _) | (with_reducible refine Kd.C_drewN ?_ _) | (with_reducible refine Kd.C_drew ?_))); (case side4_4 => exact (Kd.N_reads' HO109.out).2.1); rintro e w22 ⟨v111, rfl, ho0, hb⟩; refine ⟨_, rfl, ?_⟩; have n0_ := Aside0.mk (Kd.R_elder' (by (with_reducible repeat (first | apply Kd.R_alloc | apply Kd.R_drewN | apply Kd.R_drew)); exact HO103.out) (Kd.R_base ho0) hb); have n1_ := Aside0.mk (Kd.N_elder' (by (with_reducible repeat (first | apply Kd.N_alloc | apply Kd.N_drewN | apply Kd.N_drew)); exact HO109.out) (Kd.R_base ho0) hb); have n2_ := Aside0.mk (Kd.R_lower (Kd.R_new' ho0 (Kd.R_lt (by (with_reducible repeat (first | apply Kd.R_alloc | apply Kd.R_drewN | apply Kd.R_drew)); exact HO103.out))) (below_size (by repeat (first | (with_reducible first | exact HB.out | apply below_alloc | apply pw_below_drewN | apply below_drew1) | exact HB.out)))); have n3_ := Aside0.mk (below_step (by repeat (first | (with_reducible first | exact HB.out | apply below_alloc | apply pw_below_drewN | apply below_drew1) | exact HB.out)) hb); clear HO103; clear HO109; clear HB; have HO103 := n0_; have HO109 := n1_; have HO112 := n2_; have HB := n3_; clear n0_ n1_ n2_ n3_; (try clear hb); (try clear hb2); (try clear hk); (try clear hi); (try clear ho0); obtain ⟨Ao23, co23, eo23⟩ := Kd.R_slice HO112.out; subst eo23; have p114 : 0 ≤ (6 : Int) := (by omega); have q114 : 6 < (t110.length : Int) := of_decide_eq_true (by first | (with_reducible assumption) | assumption); obtain ⟨ad114, e114, hx114_0⟩ := Kd.at_int (Kd.R_reads' HO112.out).2.2 6 p114 q114; cases e114; (try simp only [show (6 : Int).toNat = 6 from rfl, Nat.reduceMul, Nat.reduceEqDiff, Go.Addr.add, ↓reduceIte] at hx114_0); have qi114 : (6 < t110.length) = True := eq_true (by omega); (try rw [show ((6 : Int)).toNat = 6 from rfl] at hx114_0); replace p114 := eq_true p114; replace q114 := eq_true q114; have p115 : 0 ≤ (7 : Int) := (by omega); have q115 : 7 < (t110.length : Int) := of_decide_eq_true (by first | (with_reducible assumption) | assumption); obtain ⟨ad115, e115, hx115_0⟩ := Kd.at_int (Kd.R_reads' HO112.out).2.2 7 p115 q115; obtain rfl : ad114 = ad115 := (by injection e115); (try simp only [show (7 : Int).toNat = 7 from rfl, Nat.reduceMul, Nat.reduceEqDiff, Go.Addr.add, ↓reduceIte] at hx115_0); have qi115 : (7 < t110.length) = True := eq_true (by omega); (try rw [show ((7 : Int)).toNat = 7 from rfl] at hx115_0); replace p115 := eq_true p115; replace q115 := eq_true q115; have p116 : 0 ≤ (28 : Int) := (by omega); have q116 : 28 < (t110.length : Int) := of_decide_eq_true (by first | (with_reducible assumption) | assumption); obtain ⟨ad116, e116, hx116_0⟩ := Kd.at_int (Kd.R_reads' HO112.out).2.2 28 p116 q116; obtain rfl : ad114 = ad116 := (by injection e116); (try simp only [show (28 : Int).toNat = 28 from rfl, Nat.reduceMul, Nat.reduceEqDiff, Go.Addr.add, ↓reduceIte] at hx116_0); have qi116 : (28 < t110.length) = True := eq_true (by omega); (try rw [show ((28 : Int)).toNat = 28 from rfl] at hx116_0); replace p116 := eq_true p116; replace q116 := eq_true q116; have p117 : 0 ≤ (236 : Int) := (by omega); have q117 : 236 < (t110.length : Int) := of_decide_eq_true (by first | (with_reducible assumption) | assumption); obtain ⟨ad117, e117, hx117_0⟩ := Kd.at_int (Kd.R_reads' HO112.out).2.2 236 p117 q117; obtain rfl : ad114 = ad117 := (by injection e117); (try simp only [show (236 : Int).toNat = 236 from rfl, Nat.reduceMul, Nat.reduceEqDiff, Go.Addr.add, ↓reduceIte] at hx117_0); have qi117 : (236 < t110.length) = True := eq_true (by omega); (try rw [show ((236 : Int)).toNat = 236 from rfl] at hx117_0); replace p117 := eq_true p117; replace q117 := eq_true q117; have p118 : 0 ≤ (240 : Int) := (by omega); have q118 : 240 < (t110.length : Int) := of_decide_eq_true (by first | (with_reducible assumption) | assumption); obtain ⟨ad118, e118, hx118_0⟩ := Kd.at_int (Kd.R_reads' HO112.out).2.2 240 p118 q118; obtain rfl : ad114 = ad118 := (by injection e118); (try simp only [show (240 : Int).toNat = 240 from rfl, Nat.reduceMul, Nat.reduceEqDiff, Go.Addr.add, ↓reduceIte] at hx118_0); have qi118 : (240 < t110.length) = True := eq_true (by omega); (try rw [show ((240 : Int)).toNat = 240 from rfl] at hx118_0); replace p118 := eq_true p118; replace q118 := eq_true q118))
            go_ret
            exact ⟨by first | rfl | (simp [errW_none, errW_some] <;> rfl) | (simp [*, errW_none, errW_some] <;> rfl), by repeat (first | (with_reducible first | exact HB.out | apply below_alloc | apply pw_below_drewN | apply below_drew1) | exact HB.out)⟩
           ·rw [if_neg c12] at H
            exact absurd H (by simp)
          ·rw [if_neg c11] at H
           have c11b0 : ((rd t110 236) == 99) = false := beq_eq_false_iff_ne.mpr c11
           have c11b1 : ((rd t110 236) != 99) = true := bne_iff_ne.mpr c11
           obtain rfl := Option.some.inj H
           go_enter Tryd.func5, Tryd.ntmps5
           go_wp2_with (first | ((with_reducible refine gate_dst (N := 4) rfl ?_); (try (refine gate_guard (by rfl) ?_; dsimp only)); refine Kd.R_lit (Kd.int .u8) _ 5 ?hg_5 (N := 4) ?hd_5 (xs := ([7] : List Int)) (inner := [.int .u8 7]) (ok := fun _ => True) (okp := fun _ => True) ?hr_5 ?hp_5 (fun _ hk => hk) trivial (Below.refl _ _) (Nat.le_refl _) (by simp) ?_; (case hd_5 => rfl); (case hg_5 => rfl); (case hr_5 => first | (go_simp; done) | (go_simp; rfl)); (case hp_5 => exact (Reps.one (show Kd.M (Kd.int .u8) _ _ _ 7 [.int .u8 7] from rfl) (Reps.none _ _))); intro v102 w24 ho25 hb hg_ hnew_; clear hg_ hnew_; (first | rw [← Ny101.out] at ho25 | (simp only [Int.reduceToNat] at ho25; rw [← Ny101.out] at ho25)); have n0_ := Aside0.mk (Kd.R_lower ho25 (below_size (by repeat (first | (with_reducible first | exact HB.out | apply below_alloc | apply pw_below_drewN | apply below_drew1) | exact HB.out)))); have n1_ := Aside0.mk (below_step (by repeat (first | (with_reducible first | exact HB.out | apply below_alloc | apply pw_below_drewN | apply below_drew1) | exact HB.out)) hb); clear HB; have HO103 := n0_; have HB := n1_; clear n0_ n1_; clear hb ho25) | ((with_reducible refine gate_dst (N := 5) rfl ?_); (try (refine gate_guard (by rfl) ?_; dsimp only)); refine Kd.R_lit (Kd.int .u8) _ 5 ?hg_6 (N := 5) ?hd_6 (xs := ([3] : List Int)) (inner := [.int .u8 3]) (ok := fun _ => True) (okp := fun _ => True) ?hr_6 ?hp_6 (fun _ hk => hk) trivial (Below.refl _ _) (Nat.le_refl _) (by simp) ?_; (case hd_6 => rfl); (case hg_6 => rfl); (case hr_6 => first | (go_simp; done) | (go_simp; rfl)); (case hp_6 => exact (Reps.one (show Kd.M (Kd.int .u8) _ _ _ 3 [.int .u8 3] from rfl) (Reps.none _ _))); intro v105 w26 ho27 hb hg_ hnew_; clear hg_ hnew_; (first | rw [← Ny104.out] at ho27 | (simp only [Int.reduceToNat] at ho27; rw [← Ny104.out] at ho27)); have n0_ := Aside0.mk (Kd.R_elder' (by (with_reducible repeat (first | apply Kd.R_alloc | apply Kd.R_drewN | apply Kd.R_drew)); exact HO103.out) (Kd.R_base ho27) hb); have n1_ := Aside0.mk (Kd.R_lower (Kd.R_new' ho27 (Kd.R_lt (by (with_reducible repeat (first | apply Kd.R_alloc | apply Kd.R_drewN | apply Kd.R_drew)); exact HO103.out))) (below_size (by repeat (first | (with_reducible first | exact HB.out | apply below_alloc | apply pw_below_drewN | apply below_drew1) | exact HB.out)))); have n2_ := Aside0.mk (below_step (by repeat (first | (with_reducible first | exact HB.out | apply below_alloc | apply pw_below_drewN | apply below_drew1) | exact HB.out)) hb); clear HO103; clear HB; have HO103 := n0_; have HO106 := n1_; have HB := n2_; clear n0_ n1_ n2_; clear hb ho27; obtain ⟨Ao28, co28, eo28⟩ := Kd.R_slice HO106.out; subst eo28) | ((with_reducible refine gate_dst (N := 7) rfl ?_); (try (refine gate_guard (by rfl) ?_; dsimp only)); refine Kd.N_lit k39 _ 39 ?hg_7 (N' := 7) ?hd_7 (xs := ([(⟨53, y104⟩ : S39)] : List (S39))) (inner := [.int .i64 53, .slice Ao28 y104.length co28]) (ok := (fun k_ => some k_ ≠ (v102 : Value).ownBlock)) (okp := (fun k_ => some k_ ≠ (v102 : Value).ownBlock)) ?hr_7 ?hp_7 (fun _ hk => hk) ((show ∀ k_, w26.heap.size ≤ k_ → (fun k_ => some k_ ≠ (v102 : Value).ownBlock) k_ from fun k_ hk => Kd.fresh' (Kd.R_lt (by (with_reducible repeat (first | apply Kd.R_alloc | apply Kd.R_drewN | apply Kd.R_drew)); exact HO103.out)) k_ hk) _ (Nat.le_refl _)) (Below.refl _ _) (Nat.le_refl _) (by simp) ?_; (case hd_7 => rfl); (case hg_7 => rfl); (case hr_7 => first | (go_simp; done) | (go_simp; rfl)); (case hp_7 => exact (Reps.c2 (show Kd.FK k39 _ _ (⟨53, y104⟩ : S39) [.int .i64 53, .slice Ao28 y104.length co28] from (k39_mkF _ _ (⟨53, y104⟩ : S39) (Kd.R_reads' (Kd.R_mono (ok' := (fun k_ => some k_ ≠ (v102 : Value).ownBlock)) (HO106.out) (fun k_ hk => hk.2))).2.1 (Kd.R_F (Kd.R_mono (ok' := (fun k_ => some k_ ≠ (v102 : Value).ownBlock)) (HO106.out) (fun k_ hk => hk.2))))) (Reps.none _ _))); intro v108 w29 ho30 hb hg_ hnew_; clear hg_ hnew_; (first | rw [← Ny107.out] at ho30 | (simp only [Int.reduceToNat] at ho30; rw [← Ny107.out] at ho30)); have n0_ := Aside0.mk (Kd.R_below (by (with_reducible repeat (first | apply Kd.R_alloc | apply Kd.R_drewN | apply Kd.R_drew)); exact HO103.out) hb); have n1_ := Aside0.mk (Kd.N_lower ho30 (below_size (by repeat (first | (with_reducible first | exact HB.out | apply below_alloc | apply pw_below_drewN | apply below_drew1) | exact HB.out)))); have n2_ := Aside0.mk (below_step (by repeat (first | (with_reducible first | exact HB.out | apply below_alloc | apply pw_below_drewN | apply below_drew1) | exact HB.out)) hb); clear HO103; clear HB; clear HO106; have HO103 := n0_; have HO109 := n1_; have HB := n2_; clear n0_ n1_ n2_; clear hb ho30; obtain ⟨Ao31, co31, eo31⟩ := Kd.N_slice HO109.out; subst eo31; obtain ⟨Ao32, co32, eo32⟩ := Kd.R_slice HO103.out; subst eo32) | ((with_reducible refine gate_callee (f := 10) rfl ?_); refine goesL_ (some 9) rfl rfl Tryd.func10 (by kernel_rfl) rfl #[.agg #[.int .i64 1, .int .u32 258, .int .i64 0, .int .i64 0, .int .u32 0, .int .u32 0, .int .u32 0, .int .u32 0, .slice Ao32 y101.length co32, .slice Ao31 y107.length co31]] rfl (by (try simp only [List.map_toArray, List.map_cons, List.map_nil]); first | done | rfl | (simp only [List.length_drop, List.length_take]; rfl)) ?_; (with_reducible refine (packet_Encode.calls k 1 258 0 0 0 0 0 0 _ _ y101 _ _ y107 t110 t113 _ ?side1_8 ?side2_8 ?side3_8 ?side4_8 A1.out).mono ?_); (case side1_8 => repeat (first | exact (Kd.R_reads' HO103.out).2.2 | (with_reducible refine Kd.C_alloc ?_ _) | (with_reducible refine Kd.C_drewN ?_ _) | (with_reducible refine Kd.C_drew ?_))); (case side2_8 => exact (Kd.R_reads' HO103.out).2.1); (case side3_8 => repeat (first | exact (Kd.N_reads' HO109.out).2.2 | (with_reducible refine Kd.C_alloc ?_ _) | (with_reducible refine Kd.C_drewN ?_ _) | (with_reducible refine Kd.C_drew ?_))); (case side4_8 => exact (Kd.N_reads' HO109.out).2.1); rintro e w33 ⟨v111, rfl, ho0, hb⟩; refine ⟨_, rfl, ?_⟩; have n0_ := Aside0.mk (Kd.R_elder' (by (with_reducible repeat (first | apply Kd.R_alloc | apply Kd.R_drewN | apply Kd.R_drew)); exact HO103.out) (Kd.R_base ho0) hb); have n1_ := Aside0.mk (Kd.N_elder' (by (with_reducible repeat (first | apply Kd.N_alloc | apply Kd.N_drewN | apply Kd.N_drew)); exact HO109.out) (Kd.R_base ho0) hb); have n2_ := Aside0.mk (Kd.R_lower (Kd.R_new' ho0 (Kd.R_lt (by (with_reducible repeat (first | apply Kd.R_alloc | apply Kd.R_drewN | apply Kd.R_drew)); exact HO103.out))) (below_size (by repeat (first | (with_reducible first | exact HB.out | apply below_alloc | apply pw_below_drewN | apply below_drew1) | exact HB.out)))); have n3_ := Aside0.mk (below_step (by repeat (first | (with_reducible first | exact HB.out | apply below_alloc | apply pw_below_drewN | apply below_drew1) | exact HB.out)) hb); clear HO103; clear HO109; clear HB; have HO103 := n0_; have HO109 := n1_; have HO112 := n2_; have HB := n3_; clear n0_ n1_ n2_ n3_; (try clear hb); (try clear hb2); (try clear hk); (try clear hi); (try clear ho0); obtain ⟨Ao34, co34, eo34⟩ := Kd.R_slice HO112.out; subst eo34; have p114 : 0 ≤ (6 : Int) := (by omega); have q114 : 6 < (t110.length : Int) := of_decide_eq_true (by first | (with_reducible assumption) | assumption); obtain ⟨ad114, e114, hx114_0⟩ := Kd.at_int (Kd.R_reads' HO112.out).2.2 6 p114 q114; cases e114; (try simp only [show (6 : Int).toNat = 6 from rfl, Nat.reduceMul, Nat.reduceEqDiff, Go.Addr.add, ↓reduceIte] at hx114_0); have qi114 : (6 < t110.length) = True := eq_true (by omega); (try rw [show ((6 : Int)).toNat = 6 from rfl] at hx114_0); replace p114 := eq_true p114; replace q114 := eq_true q114; have p115 : 0 ≤ (7 : Int) := (by omega); have q115 : 7 < (t110.length : Int) := of_decide_eq_true (by first | (with_reducible assumption) | assumption); obtain ⟨ad115, e115, hx115_0⟩ := Kd.at_int (Kd.R_reads' HO112.out).2.2 7 p115 q115; obtain rfl : ad114 = ad115 := (by injection e115); (try simp only [show (7 : Int).toNat = 7 from rfl, Nat.reduceMul, Nat.reduceEqDiff, Go.Addr.add, ↓reduceIte] at hx115_0); have qi115 : (7 < t110.length) = True := eq_true (by omega); (try rw [show ((7 : Int)).toNat = 7 from rfl] at hx115_0); replace p115 := eq_true p115; replace q115 := eq_true q115; have p116 : 0 ≤ (28 : Int) := (by omega); have q116 : 28 < (t110.length : Int) := of_decide_eq_true (by first | (with_reducible assumption) | assumption); obtain ⟨ad116, e116, hx116_0⟩ := Kd.at_int (Kd.R_reads' HO112.out).2.2 28 p116 q116; obtain rfl : ad114 = ad116 := (by injection e116); (try simp only [show (28 : Int).toNat = 28 from rfl, Nat.reduceMul, Nat.reduceEqDiff, Go.Addr.add, ↓reduceIte] at hx116_0); have qi116 : (28 < t110.length) = True := eq_true (by omega); (try rw [show ((28 : Int)).toNat = 28 from rfl] at hx116_0); replace p116 := eq_true p116; replace q116 := eq_true q116; have p117 : 0 ≤ (236 : Int) := (by omega); have q117 : 236 < (t110.length : Int) := of_decide_eq_true (by first | (with_reducible assumption) | assumption); obtain ⟨ad117, e117, hx117_0⟩ := Kd.at_int (Kd.R_reads' HO112.out).2.2 236 p117 q117; obtain rfl : ad114 = ad117 := (by injection e117); (try simp only [show (236 : Int).toNat = 236 from rfl, Nat.reduceMul, Nat.reduceEqDiff, Go.Addr.add, ↓reduceIte] at hx117_0); have qi117 : (236 < t110.length) = True := eq_true (by omega); (try rw [show ((236 : Int)).toNat = 236 from rfl] at hx117_0); replace p117 := eq_true p117; replace q117 := eq_true q117))
           go_ret
           exact ⟨by first | rfl | (simp [errW_none, errW_some] <;> rfl) | (simp [*, errW_none, errW_some] <;> rfl), by repeat (first | (with_reducible first | exact HB.out | apply below_alloc | apply pw_below_drewN | apply below_drew1) | exact HB.out)⟩
         ·rw [if_neg c10] at H
          exact absurd H (by simp)
        ·rw [if_neg c9] at H
         have c9b0 : ((rd t110 28) == 7) = false := beq_eq_false_iff_ne.mpr c9
         have c9b1 : ((rd t110 28) != 7) = true := bne_iff_ne.mpr c9
         obtain rfl := Option.some.inj H
         go_enter Tryd.func5, Tryd.ntmps5
         go_wp2_with (first | ((with_reducible refine gate_dst (N := 4) rfl ?_); (try (refine gate_guard (by rfl) ?_; dsimp only)); refine Kd.R_lit (Kd.int .u8) _ 5 ?hg_9 (N := 4) ?hd_9 (xs := ([7] : List Int)) (inner := [.int .u8 7]) (ok := fun _ => True) (okp := fun _ => True) ?hr_9 ?hp_9 (fun _ hk => hk) trivial (Below.refl _ _) (Nat.le_refl _) (by simp) ?_; (case hd_9 => rfl); (case hg_9 => rfl); (case hr_9 => first | (go_simp; done) | (go_simp; rfl)); (case hp_9 => exact (Reps.one (show Kd.M (Kd.int .u8) _ _ _ 7 [.int .u8 7] from rfl) (Reps.none _ _))); intro v102 w35 ho36 hb hg_ hnew_; clear hg_ hnew_; (first | rw [← Ny101.out] at ho36 | (simp only [Int.reduceToNat] at ho36; rw [← Ny101.out] at ho36)); have n0_ := Aside0.mk (Kd.R_lower ho36 (below_size (by repeat (first | (with_reducible first | exact HB.out | apply below_alloc | apply pw_below_drewN | apply below_drew1) | exact HB.out)))); have n1_ := Aside0.mk (below_step (by repeat (first | (with_reducible first | exact HB.out | apply below_alloc | apply pw_below_drewN | apply below_drew1) | exact HB.out)) hb); clear HB; have HO103 := n0_; have HB := n1_; clear n0_ n1_; clear hb ho36) | ((with_reducible refine gate_dst (N := 5) rfl ?_); (try (refine gate_guard (by rfl) ?_; dsimp only)); refine Kd.R_lit (Kd.int .u8) _ 5 ?hg_10 (N := 5) ?hd_10 (xs := ([3] : List Int)) (inner := [.int .u8 3]) (ok := fun _ => True) (okp := fun _ => True) ?hr_10 ?hp_10 (fun _ hk => hk) trivial (Below.refl _ _) (Nat.le_refl _) (by simp) ?_; (case hd_10 => rfl); (case hg_10 => rfl); (case hr_10 => first | (go_simp; done) | (go_simp; rfl)); (case hp_10 => exact (Reps.one (show Kd.M (Kd.int .u8) _ _ _ 3 [.int .u8 3] from rfl) (Reps.none _ _))); intro v105 w37 ho38 hb hg_ hnew_; clear hg_ hnew_; (first | rw [← Ny104.out] at ho38 | (simp only [Int.reduceToNat] at ho38; rw [← Ny104.out] at ho38)); have n0_ := Aside0.mk (Kd.R_elder' (by (with_reducible repeat (first | apply Kd.R_alloc | apply Kd.R_drewN | apply Kd.R_drew)); exact HO103.out) (Kd.R_base ho38) hb); have n1_ := Aside0.mk (Kd.R_lower (Kd.R_new' ho38 (Kd.R_lt (by (with_reducible repeat (first | apply Kd.R_alloc | apply Kd.R_drewN | apply Kd.R_drew)); exact HO103.out))) (below_size (by repeat (first | (with_reducible first | exact HB.out | apply below_alloc | apply pw_below_drewN | apply below_drew1) | exact HB.out)))); have n2_ := Aside0.mk (below_step (by repeat (first | (with_reducible first | exact HB.out | apply below_alloc | apply pw_below_drewN | apply below_drew1) | exact HB.out)) hb); clear HO103; clear HB; have HO103 := n0_; have HO106 := n1_; have HB := n2_; clear n0_ n1_ n2_; clear hb ho38; obtain ⟨Ao39, co39, eo39⟩ := Kd.R_slice HO106.out; subst eo39) | ((with_reducible refine gate_dst (N := 7) rfl ?_); (try (refine gate_guard (by rfl) ?_; dsimp only)); refine Kd.N_lit k39 _ 39 ?hg_11 (N' := 7) ?hd_11 (xs := ([(⟨53, y104⟩ : S39)] : List (S39))) (inner := [.int .i64 53, .slice Ao39 y104.length co39]) (ok := (fun k_ => some k_ ≠ (v102 : Value).ownBlock)) (okp := (fun k_ => some k_ ≠ (v102 : Value).ownBlock)) ?hr_11 ?hp_11 (fun _ hk => hk) ((show ∀ k_, w37.heap.size ≤ k_ → (fun k_ => some k_ ≠ (v102 : Value).ownBlock) k_ from fun k_ hk => Kd.fresh' (Kd.R_lt (by (with_reducible repeat (first | apply Kd.R_alloc | apply Kd.R_drewN | apply Kd.R_drew)); exact HO103.out)) k_ hk) _ (Nat.le_refl _)) (Below.refl _ _) (Nat.le_refl _) (by simp) ?_; (case hd_11 => rfl); (case hg_11 => rfl); (case hr_11 => first | (go_simp; done) | (go_simp; rfl)); (case hp_11 => exact (Reps.c2 (show Kd.FK k39 _ _ (⟨53, y104⟩ : S39) [.int .i64 53, .slice Ao39 y104.length co39] from (k39_mkF _ _ (⟨53, y104⟩ : S39) (Kd.R_reads' (Kd.R_mono (ok' := (fun k_ => some k_ ≠ (v102 : Value).ownBlock)) (HO106.out) (fun k_ hk => hk.2))).2.1 (Kd.R_F (Kd.R_mono (ok' := (fun k_ => some k_ ≠ (v102 : Value).ownBlock)) (HO106.out) (fun k_ hk => hk.2))))) (Reps.none _ _))); intro v108 w40 ho41 hb hg_ hnew_; clear hg_ hnew_; (first | rw [← Ny107.out] at ho41 | (simp only [Int.reduceToNat] at ho41; rw [← Ny107.out] at ho41)); have n0_ := Aside0.mk (Kd.R_below (by (with_reducible repeat (first | apply Kd.R_alloc | apply Kd.R_drewN | apply Kd.R_drew)); exact HO103.out) hb); have n1_ := Aside0.mk (Kd.N_lower ho41 (below_size (by repeat (first | (with_reducible first | exact HB.out | apply below_alloc | apply pw_below_drewN | apply below_drew1) | exact HB.out)))); have n2_ := Aside0.mk (below_step (by repeat (first | (with_reducible first | exact HB.out | apply below_alloc | apply pw_below_drewN | apply below_drew1) | exact HB.out)) hb); clear HO103; clear HB; clear HO106; have HO103 := n0_; have HO109 := n1_; have HB := n2_; clear n0_ n1_ n2_; clear hb ho41; obtain ⟨Ao42, co42, eo42⟩ := Kd.N_slice HO109.out; subst eo42; obtain ⟨Ao43, co43, eo43⟩ := Kd.R_slice HO103.out; subst eo43) | ((with_reducible refine gate_callee (f := 10) rfl ?_); refine goesL_ (some 9) rfl rfl Tryd.func10 (by kernel_rfl) rfl #[.agg #[.int .i64 1, .int .u32 258, .int .i64 0, .int .i64 0, .int .u32 0, .int .u32 0, .int .u32 0, .int .u32 0, .slice Ao43 y101.length co43, .slice Ao42 y107.length co42]] rfl (by (try simp only [List.map_toArray, List.map_cons, List.map_nil]); first | done | rfl | (simp only [List.length_drop, List.length_take]; rfl)) ?_; (with_reducible refine (packet_Encode.calls k 1 258 0 0 0 0 0 0 _ _ y101 _ _ y107 t110 t113 _ ?side1_12 ?side2_12 ?side3_12 ?side4_12 A1.out).mono ?_); (case side1_12 => repeat (first | exact (Kd.R_reads' HO103.out).2.2 | (with_reducible refine Kd.C_alloc ?_ _) | (with_reducible refine Kd.C_drewN ?_ _) | (with_reducible refine Kd.C_drew ?_))); (case side2_12 => exact (Kd.R_reads' HO103.out).2.1); (case side3_12 => repeat (first | exact (Kd.N_reads' HO109.out).2.2 | (with_reducible refine Kd.C_alloc ?_ _) | (with_reducible refine Kd.C_drewN ?_ _) | (with_reducible refine Kd.C_drew ?_))); (case side4_12 => exact (Kd.N_reads' HO109.out).2.1); rintro e w44 ⟨v111, rfl, ho0, hb⟩; refine ⟨_, rfl, ?_⟩; have n0_ := Aside0.mk (Kd.R_elder' (by (with_reducible repeat (first | apply Kd.R_alloc | apply Kd.R_drewN | apply Kd.R_drew)); exact HO103.out) (Kd.R_base ho0) hb); have n1_ := Aside0.mk (Kd.N_elder' (by (with_reducible repeat (first | apply Kd.N_alloc | apply Kd.N_drewN | apply Kd.N_drew)); exact HO109.out) (Kd.R_base ho0) hb); have n2_ := Aside0.mk (Kd.R_lower (Kd.R_new' ho0 (Kd.R_lt (by (with_reducible repeat (first | apply Kd.R_alloc | apply Kd.R_drewN | apply Kd.R_drew)); exact HO103.out))) (below_size (by repeat (first | (with_reducible first | exact HB.out | apply below_alloc | apply pw_below_drewN | apply below_drew1) | exact HB.out)))); have n3_ := Aside0.mk (below_step (by repeat (first | (with_reducible first | exact HB.out | apply below_alloc | apply pw_below_drewN | apply below_drew1) | exact HB.out)) hb); clear HO103; clear HO109; clear HB; have HO103 := n0_; have HO109 := n1_; have HO112 := n2_; have HB := n3_; clear n0_ n1_ n2_ n3_; (try clear hb); (try clear hb2); (try clear hk); (try clear hi); (try clear ho0); obtain ⟨Ao45, co45, eo45⟩ := Kd.R_slice HO112.out; subst eo45; have p114 : 0 ≤ (6 : Int) := (by omega); have q114 : 6 < (t110.length : Int) := of_decide_eq_true (by first | (with_reducible assumption) | assumption); obtain ⟨ad114, e114, hx114_0⟩ := Kd.at_int (Kd.R_reads' HO112.out).2.2 6 p114 q114; cases e114; (try simp only [show (6 : Int).toNat = 6 from rfl, Nat.reduceMul, Nat.reduceEqDiff, Go.Addr.add, ↓reduceIte] at hx114_0); have qi114 : (6 < t110.length) = True := eq_true (by omega); (try rw [show ((6 : Int)).toNat = 6 from rfl] at hx114_0); replace p114 := eq_true p114; replace q114 := eq_true q114; have p115 : 0 ≤ (7 : Int) := (by omega); have q115 : 7 < (t110.length : Int) := of_decide_eq_true (by first | (with_reducible assumption) | assumption); obtain ⟨ad115, e115, hx115_0⟩ := Kd.at_int (Kd.R_reads' HO112.out).2.2 7 p115 q115; obtain rfl : ad114 = ad115 := (by injection e115); (try simp only [show (7 : Int).toNat = 7 from rfl, Nat.reduceMul, Nat.reduceEqDiff, Go.Addr.add, ↓reduceIte] at hx115_0); have qi115 : (7 < t110.length) = True := eq_true (by omega); (try rw [show ((7 : Int)).toNat = 7 from rfl] at hx115_0); replace p115 := eq_true p115; replace q115 := eq_true q115; have p116 : 0 ≤ (28 : Int) := (by omega); have q116 : 28 < (t110.length : Int) := of_decide_eq_true (by first | (with_reducible assumption) | assumption); obtain ⟨ad116, e116, hx116_0⟩ := Kd.at_int (Kd.R_reads' HO112.out).2.2 28 p116 q116; obtain rfl : ad114 = ad116 := (by injection e116); (try simp only [show (28 : Int).toNat = 28 from rfl, Nat.reduceMul, Nat.reduceEqDiff, Go.Addr.add, ↓reduceIte] at hx116_0); have qi116 : (28 < t110.length) = True := eq_true (by omega); (try rw [show ((28 : Int)).toNat = 28 from rfl] at hx116_0); replace p116 := eq_true p116; replace q116 := eq_true q116))
         go_ret
         exact ⟨by first | rfl | (simp [errW_none, errW_some] <;> rfl) | (simp [*, errW_none, errW_some] <;> rfl), by repeat (first | (with_reducible first | exact HB.out | apply below_alloc | apply pw_below_drewN | apply below_drew1) | exact HB.out)⟩
       ·rw [if_neg c8] at H
        exact absurd H (by simp)
      ·rw [if_neg c7] at H
       have c7b0 : ((rd t110 7) == 2) = false := beq_eq_false_iff_ne.mpr c7
       have c7b1 : ((rd t110 7) != 2) = true := bne_iff_ne.mpr c7
       obtain rfl := Option.some.inj H
       go_enter Tryd.func5, Tryd.ntmps5
       go_wp2_with (first | ((with_reducible refine gate_dst (N := 4) rfl ?_); (try (refine gate_guard (by rfl) ?_; dsimp only)); refine Kd.R_lit (Kd.int .u8) _ 5 ?hg_13 (N := 4) ?hd_13 (xs := ([7] : List Int)) (inner := [.int .u8 7]) (ok := fun _ => True) (okp := fun _ => True) ?hr_13 ?hp_13 (fun _ hk => hk) trivial (Below.refl _ _) (Nat.le_refl _) (by simp) ?_; (case hd_13 => rfl); (case hg_13 => rfl); (case hr_13 => first | (go_simp; done) | (go_simp; rfl)); (case hp_13 => exact (Reps.one (show Kd.M (Kd.int .u8) _ _ _ 7 [.int .u8 7] from rfl) (Reps.none _ _))); intro v102 w46 ho47 hb hg_ hnew_; clear hg_ hnew_; (first | rw [← Ny101.out] at ho47 | (simp only [Int.reduceToNat] at ho47; rw [← Ny101.out] at ho47)); have n0_ := Aside0.mk (Kd.R_lower ho47 (below_size (by repeat (first | (with_reducible first | exact HB.out | apply below_alloc | apply pw_below_drewN | apply below_drew1) | exact HB.out)))); have n1_ := Aside0.mk (below_step (by repeat (first | (with_reducible first | exact HB.out | apply below_alloc | apply pw_below_drewN | apply below_drew1) | exact HB.out)) hb); clear HB; have HO103 := n0_; have HB := n1_; clear n0_ n1_; clear hb ho47) | ((with_reducible refine gate_dst (N := 5) rfl ?_); (try (refine gate_guard (by rfl) ?_; dsimp only)); refine Kd.R_lit (Kd.int .u8) _ 5 ?hg_14 (N := 5) ?hd_14 (xs := ([3] : List Int)) (inner := [.int .u8 3]) (ok := fun _ => True) (okp := fun _ => True) ?hr_14 ?hp_14 (fun _ hk => hk) trivial (Below.refl _ _) (Nat.le_refl _) (by simp) ?_; (case hd_14 => rfl); (case hg_14 => rfl); (case hr_14 => first | (go_simp; done) | (go_simp; rfl)); (case hp_14 => exact (Reps.one (show Kd.M (Kd.int .u8) _ _ _ 3 [.int .u8 3] from rfl) (Reps.none _ _))); intro v105 w48 ho49 hb hg_ hnew_; clear hg_ hnew_; (first | rw [← Ny104.out] at ho49 | (simp only [Int.reduceToNat] at ho49; rw [← Ny104.out] at ho49)); have n0_ := Aside0.mk (Kd.R_elder' (by (with_reducible repeat (first | apply Kd.R_alloc | apply Kd.R_drewN | apply Kd.R_drew)); exact HO103.out) (Kd.R_base ho49) hb); have n1_ := Aside0.mk (Kd.R_lower (Kd.R_new' ho49 (Kd.R_lt (by (with_reducible repeat (first | apply Kd.R_alloc | apply Kd.R_drewN | apply Kd.R_drew)); exact HO103.out))) (below_size (by repeat (first | (with_reducible first | exact HB.out | apply below_alloc | apply pw_below_drewN | apply below_drew1) | exact HB.out)))); have n2_ := Aside0.mk (below_step (by repeat (first | (with_reducible first | exact HB.out | apply below_alloc | apply pw_below_drewN | apply below_drew1) | exact HB.out)) hb); clear HO103; clear HB; have HO103 := n0_; have HO106 := n1_; have HB := n2_; clear n0_ n1_ n2_; clear hb ho49; obtain ⟨Ao50, co50, eo50⟩ := Kd.R_slice HO106.out; subst eo50) | ((with_reducible refine gate_dst (N := 7) rfl ?_); (try (refine gate_guard (by rfl) ?_; dsimp only)); refine Kd.N_lit k39 _ 39 ?hg_15 (N' := 7) ?hd_15 (xs := ([(⟨53, y104⟩ : S39)] : List (S39))) (inner := [.int .i64 53, .slice Ao50 y104.length co50]) (ok := (fun k_ => some k_ ≠ (v102 : Value).ownBlock)) (okp := (fun k_ => some k_ ≠ (v102 : Value).ownBlock)) ?hr_15 ?hp_15 (fun _ hk => hk) ((show ∀ k_, w48.heap.size ≤ k_ → (fun k_ => some k_ ≠ (v102 : Value).ownBlock) k_ from fun k_ hk => Kd.fresh' (Kd.R_lt (by (with_reducible repeat (first | apply Kd.R_alloc | apply Kd.R_drewN | apply Kd.R_drew)); exact HO103.out)) k_ hk) _ (Nat.le_refl _)) (Below.refl _ _) (Nat.le_refl _) (by simp) ?_; (case hd_15 => rfl); (case hg_15 => rfl); (case hr_15 => first | (go_simp; done) | (go_simp; rfl)); (case hp_15 => exact (Reps.c2 (show Kd.FK k39 _ _ (⟨53, y104⟩ : S39) [.int .i64 53, .slice Ao50 y104.length co50] from (k39_mkF _ _ (⟨53, y104⟩ : S39) (Kd.R_reads' (Kd.R_mono (ok' := (fun k_ => some k_ ≠ (v102 : Value).ownBlock)) (HO106.out) (fun k_ hk => hk.2))).2.1 (Kd.R_F (Kd.R_mono (ok' := (fun k_ => some k_ ≠ (v102 : Value).ownBlock)) (HO106.out) (fun k_ hk => hk.2))))) (Reps.none _ _))); intro v108 w51 ho52 hb hg_ hnew_; clear hg_ hnew_; (first | rw [← Ny107.out] at ho52 | (simp only [Int.reduceToNat] at ho52; rw [← Ny107.out] at ho52)); have n0_ := Aside0.mk (Kd.R_below (by (with_reducible repeat (first | apply Kd.R_alloc | apply Kd.R_drewN | apply Kd.R_drew)); exact HO103.out) hb); have n1_ := Aside0.mk (Kd.N_lower ho52 (below_size (by repeat (first | (with_reducible first | exact HB.out | apply below_alloc | apply pw_below_drewN | apply below_drew1) | exact HB.out)))); have n2_ := Aside0.mk (below_step (by repeat (first | (with_reducible first | exact HB.out | apply below_alloc | apply pw_below_drewN | apply below_drew1) | exact HB.out)) hb); clear HO103; clear HB; clear HO106; have HO103 := n0_; have HO109 := n1_; have HB := n2_; clear n0_ n1_ n2_; clear hb ho52; obtain ⟨Ao53, co53, eo53⟩ := Kd.N_slice HO109.out; subst eo53; obtain ⟨Ao54, co54, eo54⟩ := Kd.R_slice HO103.out; subst eo54) | ((with_reducible refine gate_callee (f := 10) rfl ?_); refine goesL_ (some 9) rfl rfl Tryd.func10 (by kernel_rfl) rfl #[.agg #[.int .i64 1, .int .u32 258, .int .i64 0, .int .i64 0, .int .u32 0, .int .u32 0, .int .u32 0, .int .u32 0, .slice Ao54 y101.length co54, .slice Ao53 y107.length co53]] rfl (by (try simp only [List.map_toArray, List.map_cons, List.map_nil]); first | done | rfl | (simp only [List.length_drop, List.length_take]; rfl)) ?_; (with_reducible refine (packet_Encode.calls k 1 258 0 0 0 0 0 0 _ _ y101 _ _ y107 t110 t113 _ ?side1_16 ?side2_16 ?side3_16 ?side4_16 A1.out).mono ?_); (case side1_16 => repeat (first | exact (Kd.R_reads' HO103.out).2.2 | (with_reducible refine Kd.C_alloc ?_ _) | (with_reducible refine Kd.C_drewN ?_ _) | (with_reducible refine Kd.C_drew ?_))); (case side2_16 => exact (Kd.R_reads' HO103.out).2.1); (case side3_16 => repeat (first | exact (Kd.N_reads' HO109.out).2.2 | (with_reducible refine Kd.C_alloc ?_ _) | (with_reducible refine Kd.C_drewN ?_ _) | (with_reducible refine Kd.C_drew ?_))); (case side4_16 => exact (Kd.N_reads' HO109.out).2.1); rintro e w55 ⟨v111, rfl, ho0, hb⟩; refine ⟨_, rfl, ?_⟩; have n0_ := Aside0.mk (Kd.R_elder' (by (with_reducible repeat (first | apply Kd.R_alloc | apply Kd.R_drewN | apply Kd.R_drew)); exact HO103.out) (Kd.R_base ho0) hb); have n1_ := Aside0.mk (Kd.N_elder' (by (with_reducible repeat (first | apply Kd.N_alloc | apply Kd.N_drewN | apply Kd.N_drew)); exact HO109.out) (Kd.R_base ho0) hb); have n2_ := Aside0.mk (Kd.R_lower (Kd.R_new' ho0 (Kd.R_lt (by (with_reducible repeat (first | apply Kd.R_alloc | apply Kd.R_drewN | apply Kd.R_drew)); exact HO103.out))) (below_size (by repeat (first | (with_reducible first | exact HB.out | apply below_alloc | apply pw_below_drewN | apply below_drew1) | exact HB.out)))); have n3_ := Aside0.mk (below_step (by repeat (first | (with_reducible first | exact HB.out | apply below_alloc | apply pw_below_drewN | apply below_drew1) | exact HB.out)) hb); clear HO103; clear HO109; clear HB; have HO103 := n0_; have HO109 := n1_; have HO112 := n2_; have HB := n3_; clear n0_ n1_ n2_ n3_; (try clear hb); (try clear hb2); (try clear hk); (try clear hi); (try clear ho0); obtain ⟨Ao56, co56, eo56⟩ := Kd.R_slice HO112.out; subst eo56; have p114 : 0 ≤ (6 : Int) := (by omega); have q114 : 6 < (t110.length : Int) := of_decide_eq_true (by first | (with_reducible assumption) | assumption); obtain ⟨ad114, e114, hx114_0⟩ := Kd.at_int (Kd.R_reads' HO112.out).2.2 6 p114 q114; cases e114; (try simp only [show (6 : Int).toNat = 6 from rfl, Nat.reduceMul, Nat.reduceEqDiff, Go.Addr.add, ↓reduceIte] at hx114_0); have qi114 : (6 < t110.length) = True := eq_true (by omega); (try rw [show ((6 : Int)).toNat = 6 from rfl] at hx114_0); replace p114 := eq_true p114; replace q114 := eq_true q114; have p115 : 0 ≤ (7 : Int) := (by omega); have q115 : 7 < (t110.length : Int) := of_decide_eq_true (by first | (with_reducible assumption) | assumption); obtain ⟨ad115, e115, hx115_0⟩ := Kd.at_int (Kd.R_reads' HO112.out).2.2 7 p115 q115; obtain rfl : ad114 = ad115 := (by injection e115); (try simp only [show (7 : Int).toNat = 7 from rfl, Nat.reduceMul, Nat.reduceEqDiff, Go.Addr.add, ↓reduceIte] at hx115_0); have qi115 : (7 < t110.length) = True := eq_true (by omega); (try rw [show ((7 : Int)).toNat = 7 from rfl] at hx115_0); replace p115 := eq_true p115; replace q115 := eq_true q115))
       go_ret
       exact ⟨by first | rfl | (simp [errW_none, errW_some] <;> rfl) | (simp [*, errW_none, errW_some] <;> rfl), by repeat (first | (with_reducible first | exact HB.out | apply below_alloc | apply pw_below_drewN | apply below_drew1) | exact HB.out)⟩
     ·rw [if_neg c6] at H
      exact absurd H (by simp)
    ·rw [if_neg c5] at H
     have c5b0 : ((rd t110 6) == 1) = false := beq_eq_false_iff_ne.mpr c5
     have c5b1 : ((rd t110 6) != 1) = true := bne_iff_ne.mpr c5
     obtain rfl := Option.some.inj H
     go_enter Tryd.func5, Tryd.ntmps5
     go_wp2_with (first | ((with_reducible refine gate_dst (N := 4) rfl ?_); (try (refine gate_guard (by rfl) ?_; dsimp only)); refine Kd.R_lit (Kd.int .u8) _ 5 ?hg_17 (N := 4) ?hd_17 (xs := ([7] : List Int)) (inner := [.int .u8 7]) (ok := fun _ => True) (okp := fun _ => True) ?hr_17 ?hp_17 (fun _ hk => hk) trivial (Below.refl _ _) (Nat.le_refl _) (by simp) ?_; (case hd_17 => rfl); (case hg_17 => rfl); (case hr_17 => first | (go_simp; done) | (go_simp; rfl)); (case hp_17 => exact (Reps.one (show Kd.M (Kd.int .u8) _ _ _ 7 [.int .u8 7] from rfl) (Reps.none _ _))); intro v102 w57 ho58 hb hg_ hnew_; clear hg_ hnew_; (first | rw [← Ny101.out] at ho58 | (simp only [Int.reduceToNat] at ho58; rw [← Ny101.out] at ho58)); have n0_ := Aside0.mk (Kd.R_lower ho58 (below_size (by repeat (first | (with_reducible first | exact HB.out | apply below_alloc | apply pw_below_drewN | apply below_drew1) | exact HB.out)))); have n1_ := Aside0.mk (below_step (by repeat (first | (with_reducible first | exact HB.out | apply below_alloc | apply pw_below_drewN | apply below_drew1) | exact HB.out)) hb); clear HB; have HO103 := n0_; have HB := n1_; clear n0_ n1_; clear hb ho58) | ((with_reducible refine gate_dst (N := 5) rfl ?_); (try (refine gate_guard (by rfl) ?_; dsimp only)); refine Kd.R_lit (Kd.int .u8) _ 5 ?hg_18 (N := 5) ?hd_18 (xs := ([3] : List Int)) (inner := [.int .u8 3]) (ok := fun _ => True) (okp := fun _ => True) ?hr_18 ?hp_18 (fun _ hk => hk) trivial (Below.refl _ _) (Nat.le_refl _) (by simp) ?_; (case hd_18 => rfl); (case hg_18 => rfl); (case hr_18 => first | (go_simp; done) | (go_simp; rfl)); (case hp_18 => exact (Reps.one (show Kd.M (Kd.int .u8) _ _ _ 3 [.int .u8 3] from rfl) (Reps.none _ _))); intro v105 w59 ho60 hb hg_ hnew_; clear hg_ hnew_; (first | rw [← Ny104.out] at ho60 | (simp only [Int.reduceToNat] at ho60; rw [← Ny104.out] at ho60)); have n0_ := Aside0.mk (Kd.R_elder' (by (with_reducible repeat (first | apply Kd.R_alloc | apply Kd.R_drewN | apply Kd.R_drew)); exact HO103.out) (Kd.R_base ho60) hb); have n1_ := Aside0.mk (Kd.R_lower (Kd.R_new' ho60 (Kd.R_lt (by (with_reducible repeat (first | apply Kd.R_alloc | apply Kd.R_drewN | apply Kd.R_drew)); exact HO103.out))) (below_size (by repeat (first | (with_reducible first | exact HB.out | apply below_alloc | apply pw_below_drewN | apply below_drew1) | exact HB.out)))); have n2_ := Aside0.mk (below_step (by repeat (first | (with_reducible first | exact HB.out | apply below_alloc | apply pw_below_drewN | apply below_drew1) | exact HB.out)) hb); clear HO103; clear HB; have HO103 := n0_; have HO106 := n1_; have HB := n2_; clear n0_ n1_ n2_; clear hb ho60; obtain ⟨Ao61, co61, eo61⟩ := Kd.R_slice HO106.out; subst eo61) | ((with_reducible refine gate_dst (N := 7) rfl ?_); (try (refine gate_guard (by rfl) ?_; dsimp only)); refine Kd.N_lit k39 _ 39 ?hg_19 (N' := 7) ?hd_19 (xs := ([(⟨53, y104⟩ : S39)] : List (S39))) (inner := [.int .i64 53, .slice Ao61 y104.length co61]) (ok := (fun k_ => some k_ ≠ (v102 : Value).ownBlock)) (okp := (fun k_ => some k_ ≠ (v102 : Value).ownBlock)) ?hr_19 ?hp_19 (fun _ hk => hk) ((show ∀ k_, w59.heap.size ≤ k_ → (fun k_ => some k_ ≠ (v102 : Value).ownBlock) k_ from fun k_ hk => Kd.fresh' (Kd.R_lt (by (with_reducible repeat (first | apply Kd.R_alloc | apply Kd.R_drewN | apply Kd.R_drew)); exact HO103.out)) k_ hk) _ (Nat.le_refl _)) (Below.refl _ _) (Nat.le_refl _) (by simp) ?_; (case hd_19 => rfl); (case hg_19 => rfl); (case hr_19 => first | (go_simp; done) | (go_simp; rfl)); (case hp_19 => exact (Reps.c2 (show Kd.FK k39 _ _ (⟨53, y104⟩ : S39) [.int .i64 53, .slice Ao61 y104.length co61] from (k39_mkF _ _ (⟨53, y104⟩ : S39) (Kd.R_reads' (Kd.R_mono (ok' := (fun k_ => some k_ ≠ (v102 : Value).ownBlock)) (HO106.out) (fun k_ hk => hk.2))).2.1 (Kd.R_F (Kd.R_mono (ok' := (fun k_ => some k_ ≠ (v102 : Value).ownBlock)) (HO106.out) (fun k_ hk => hk.2))))) (Reps.none _ _))); intro v108 w62 ho63 hb hg_ hnew_; clear hg_ hnew_; (first | rw [← Ny107.out] at ho63 | (simp only [Int.reduceToNat] at ho63; rw [← Ny107.out] at ho63)); have n0_ := Aside0.mk (Kd.R_below (by (with_reducible repeat (first | apply Kd.R_alloc | apply Kd.R_drewN | apply Kd.R_drew)); exact HO103.out) hb); have n1_ := Aside0.mk (Kd.N_lower ho63 (below_size (by repeat (first | (with_reducible first | exact HB.out | apply below_alloc | apply pw_below_drewN | apply below_drew1) | exact HB.out)))); have n2_ := Aside0.mk (below_step (by repeat (first | (with_reducible first | exact HB.out | apply below_alloc | apply pw_below_drewN | apply below_drew1) | exact HB.out)) hb); clear HO103; clear HB; clear HO106; have HO103 := n0_; have HO109 := n1_; have HB := n2_; clear n0_ n1_ n2_; clear hb ho63; obtain ⟨Ao64, co64, eo64⟩ := Kd.N_slice HO109.out; subst eo64; obtain ⟨Ao65, co65, eo65⟩ := Kd.R_slice HO103.out; subst eo65) | ((with_reducible refine gate_callee (f := 10) rfl ?_); refine goesL_ (some 9) rfl rfl Tryd.func10 (by kernel_rfl) rfl #[.agg #[.int .i64 1, .int .u32 258, .int .i64 0, .int .i64 0, .int .u32 0, .int .u32 0, .int .u32 0, .int .u32 0, .slice Ao65 y101.length co65, .slice Ao64 y107.length co64]] rfl (by (try simp only [List.map_toArray, List.map_cons, List.map_nil]); first | done | rfl | (simp only [List.length_drop, List.length_take]; rfl)) ?_; (with_reducible refine (packet_Encode.calls k 1 258 0 0 0 0 0 0 _ _ y101 _ _ y107 t110 t113 _ ?side1_20 ?side2_20 ?side3_20 ?side4_20 A1.out).mono ?_); (case side1_20 => repeat (first | exact (Kd.R_reads' HO103.out).2.2 | (with_reducible refine Kd.C_alloc ?_ _) | (with_reducible refine Kd.C_drewN ?_ _) | (with_reducible refine Kd.C_drew ?_))); (case side2_20 => exact (Kd.R_reads' HO103.out).2.1); (case side3_20 => repeat (first | exact (Kd.N_reads' HO109.out).2.2 | (with_reducible refine Kd.C_alloc ?_ _) | (with_reducible refine Kd.C_drewN ?_ _) | (with_reducible refine Kd.C_drew ?_))); (case side4_20 => exact (Kd.N_reads' HO109.out).2.1); rintro e w66 ⟨v111, rfl, ho0, hb⟩; refine ⟨_, rfl, ?_⟩; have n0_ := Aside0.mk (Kd.R_elder' (by (with_reducible repeat (first | apply Kd.R_alloc | apply Kd.R_drewN | apply Kd.R_drew)); exact HO103.out) (Kd.R_base ho0) hb); have n1_ := Aside0.mk (Kd.N_elder' (by (with_reducible repeat (first | apply Kd.N_alloc | apply Kd.N_drewN | apply Kd.N_drew)); exact HO109.out) (Kd.R_base ho0) hb); have n2_ := Aside0.mk (Kd.R_lower (Kd.R_new' ho0 (Kd.R_lt (by (with_reducible repeat (first | apply Kd.R_alloc | apply Kd.R_drewN | apply Kd.R_drew)); exact HO103.out))) (below_size (by repeat (first | (with_reducible first | exact HB.out | apply below_alloc | apply pw_below_drewN | apply below_drew1) | exact HB.out)))); have n3_ := Aside0.mk (below_step (by repeat (first | (with_reducible first | exact HB.out | apply below_alloc | apply pw_below_drewN | apply below_drew1) | exact HB.out)) hb); clear HO103; clear HO109; clear HB; have HO103 := n0_; have HO109 := n1_; have HO112 := n2_; have HB := n3_; clear n0_ n1_ n2_ n3_; (try clear hb); (try clear hb2); (try clear hk); (try clear hi); (try clear ho0); obtain ⟨Ao67, co67, eo67⟩ := Kd.R_slice HO112.out; subst eo67; have p114 : 0 ≤ (6 : Int) := (by omega); have q114 : 6 < (t110.length : Int) := of_decide_eq_true (by first | (with_reducible assumption) | assumption); obtain ⟨ad114, e114, hx114_0⟩ := Kd.at_int (Kd.R_reads' HO112.out).2.2 6 p114 q114; cases e114; (try simp only [show (6 : Int).toNat = 6 from rfl, Nat.reduceMul, Nat.reduceEqDiff, Go.Addr.add, ↓reduceIte] at hx114_0); have qi114 : (6 < t110.length) = True := eq_true (by omega); (try rw [show ((6 : Int)).toNat = 6 from rfl] at hx114_0); replace p114 := eq_true p114; replace q114 := eq_true q114))
     go_ret
     exact ⟨by first | rfl | (simp [errW_none, errW_some] <;> rfl) | (simp [*, errW_none, errW_some] <;> rfl), by repeat (first | (with_reducible first | exact HB.out | apply below_alloc | apply pw_below_drewN | apply below_drew1) | exact HB.out)⟩
   ·rw [if_neg c4] at H
    exact absurd H (by simp)
  ·rw [if_neg c3] at H
   have c3b0 : ((t110.length : Int) == 244) = false := beq_eq_false_iff_ne.mpr c3
   have c3b1 : ((t110.length : Int) != 244) = true := bne_iff_ne.mpr c3
   obtain rfl := Option.some.inj H
   go_enter Tryd.func5, Tryd.ntmps5
   go_wp2_with (first | ((with_reducible refine gate_dst (N := 4) rfl ?_); (try (refine gate_guard (by rfl) ?_; dsimp only)); refine Kd.R_lit (Kd.int .u8) _ 5 ?hg_21 (N := 4) ?hd_21 (xs := ([7] : List Int)) (inner := [.int .u8 7]) (ok := fun _ => True) (okp := fun _ => True) ?hr_21 ?hp_21 (fun _ hk => hk) trivial (Below.refl _ _) (Nat.le_refl _) (by simp) ?_; (case hd_21 => rfl); (case hg_21 => rfl); (case hr_21 => first | (go_simp; done) | (go_simp; rfl)); (case hp_21 => exact (Reps.one (show Kd.M (Kd.int .u8) _ _ _ 7 [.int .u8 7] from rfl) (Reps.none _ _))); intro v102 w68 ho69 hb hg_ hnew_; clear hg_ hnew_; (first | rw [← Ny101.out] at ho69 | (simp only [Int.reduceToNat] at ho69; rw [← Ny101.out] at ho69)); have n0_ := Aside0.mk (Kd.R_lower ho69 (below_size (by repeat (first | (with_reducible first | exact HB.out | apply below_alloc | apply pw_below_drewN | apply below_drew1) | exact HB.out)))); have n1_ := Aside0.mk (below_step (by repeat (first | (with_reducible first | exact HB.out | apply below_alloc | apply pw_below_drewN | apply below_drew1) | exact HB.out)) hb); clear HB; have HO103 := n0_; have HB := n1_; clear n0_ n1_; clear hb ho69) | ((with_reducible refine gate_dst (N := 5) rfl ?_); (try (refine gate_guard (by rfl) ?_; dsimp only)); refine Kd.R_lit (Kd.int .u8) _ 5 ?hg_22 (N := 5) ?hd_22 (xs := ([3] : List Int)) (inner := [.int .u8 3]) (ok := fun _ => True) (okp := fun _ => True) ?hr_22 ?hp_22 (fun _ hk => hk) trivial (Below.refl _ _) (Nat.le_refl _) (by simp) ?_; (case hd_22 => rfl); (case hg_22 => rfl); (case hr_22 => first | (go_simp; done) | (go_simp; rfl)); (case hp_22 => exact (Reps.one (show Kd.M (Kd.int .u8) _ _ _ 3 [.int .u8 3] from rfl) (Reps.none _ _))); intro v105 w70 ho71 hb hg_ hnew_; clear hg_ hnew_; (first | rw [← Ny104.out] at ho71 | (simp only [Int.reduceToNat] at ho71; rw [← Ny104.out] at ho71)); have n0_ := Aside0.mk (Kd.R_elder' (by (with_reducible repeat (first | apply Kd.R_alloc | apply Kd.R_drewN | apply Kd.R_drew)); exact HO103.out) (Kd.R_base ho71) hb); have n1_ := Aside0.mk (Kd.R_lower (Kd.R_new' ho71 (Kd.R_lt (by (with_reducible repeat (first | apply Kd.R_alloc | apply Kd.R_drewN | apply Kd.R_drew)); exact HO103.out))) (below_size (by repeat (first | (with_reducible first | exact HB.out | apply below_alloc | apply pw_below_drewN | apply below_drew1) | exact HB.out)))); have n2_ := Aside0.mk (below_step (by repeat (first | (with_reducible first | exact HB.out | apply below_alloc | apply pw_below_drewN | apply below_drew1) | exact HB.out)) hb); clear HO103; clear HB; have HO103 := n0_; have HO106 := n1_; have HB := n2_; clear n0_ n1_ n2_; clear hb ho71; obtain ⟨Ao72, co72, eo72⟩ := Kd.R_slice HO106.out; subst eo72) | ((with_reducible refine gate_dst (N := 7) rfl ?_); (try (refine gate_guard (by rfl) ?_; dsimp only)); refine Kd.N_lit k39 _ 39 ?hg_23 (N' := 7) ?hd_23 (xs := ([(⟨53, y104⟩ : S39)] : List (S39))) (inner := [.int .i64 53, .slice Ao72 y104.length co72]) (ok := (fun k_ => some k_ ≠ (v102 : Value).ownBlock)) (okp := (fun k_ => some k_ ≠ (v102 : Value).ownBlock)) ?hr_23 ?hp_23 (fun _ hk => hk) ((show ∀ k_, w70.heap.size ≤ k_ → (fun k_ => some k_ ≠ (v102 : Value).ownBlock) k_ from fun k_ hk => Kd.fresh' (Kd.R_lt (by (with_reducible repeat (first | apply Kd.R_alloc | apply Kd.R_drewN | apply Kd.R_drew)); exact HO103.out)) k_ hk) _ (Nat.le_refl _)) (Below.refl _ _) (Nat.le_refl _) (by simp) ?_; (case hd_23 => rfl); (case hg_23 => rfl); (case hr_23 => first | (go_simp; done) | (go_simp; rfl)); (case hp_23 => exact (Reps.c2 (show Kd.FK k39 _ _ (⟨53, y104⟩ : S39) [.int .i64 53, .slice Ao72 y104.length co72] from (k39_mkF _ _ (⟨53, y104⟩ : S39) (Kd.R_reads' (Kd.R_mono (ok' := (fun k_ => some k_ ≠ (v102 : Value).ownBlock)) (HO106.out) (fun k_ hk => hk.2))).2.1 (Kd.R_F (Kd.R_mono (ok' := (fun k_ => some k_ ≠ (v102 : Value).ownBlock)) (HO106.out) (fun k_ hk => hk.2))))) (Reps.none _ _))); intro v108 w73 ho74 hb hg_ hnew_; clear hg_ hnew_; (first | rw [← Ny107.out] at ho74 | (simp only [Int.reduceToNat] at ho74; rw [← Ny107.out] at ho74)); have n0_ := Aside0.mk (Kd.R_below (by (with_reducible repeat (first | apply Kd.R_alloc | apply Kd.R_drewN | apply Kd.R_drew)); exact HO103.out) hb); have n1_ := Aside0.mk (Kd.N_lower ho74 (below_size (by repeat (first | (with_reducible first | exact HB.out | apply below_alloc | apply pw_below_drewN | apply below_drew1) | exact HB.out)))); have n2_ := Aside0.mk (below_step (by repeat (first | (with_reducible first | exact HB.out | apply below_alloc | apply pw_below_drewN | apply below_drew1) | exact HB.out)) hb); clear HO103; clear HB; clear HO106; have HO103 := n0_; have HO109 := n1_; have HB := n2_; clear n0_ n1_ n2_; clear hb ho74; obtain ⟨Ao75, co75, eo75⟩ := Kd.N_slice HO109.out; subst eo75; obtain ⟨Ao76, co76, eo76⟩ := Kd.R_slice HO103.out; subst eo76) | ((with_reducible refine gate_callee (f := 10) rfl ?_); refine goesL_ (some 9) rfl rfl Tryd.func10 (by kernel_rfl) rfl #[.agg #[.int .i64 1, .int .u32 258, .int .i64 0, .int .i64 0, .int .u32 0, .int .u32 0, .int .u32 0, .int .u32 0, .slice Ao76 y101.length co76, .slice Ao75 y107.length co75]] rfl (by (try simp only [List.map_toArray, List.map_cons, List.map_nil]); first | done | rfl | (simp only [List.length_drop, List.length_take]; rfl)) ?_; (with_reducible refine (packet_Encode.calls k 1 258 0 0 0 0 0 0 _ _ y101 _ _ y107 t110 t113 _ ?side1_24 ?side2_24 ?side3_24 ?side4_24 A1.out).mono ?_); (case side1_24 => repeat (first | exact (Kd.R_reads' HO103.out).2.2 | (with_reducible refine Kd.C_alloc ?_ _) | (with_reducible refine Kd.C_drewN ?_ _) | (with_reducible refine Kd.C_drew ?_))); (case side2_24 => exact (Kd.R_reads' HO103.out).2.1); (case side3_24 => repeat (first | exact (Kd.N_reads' HO109.out).2.2 | (with_reducible refine Kd.C_alloc ?_ _) | (with_reducible refine Kd.C_drewN ?_ _) | (with_reducible refine Kd.C_drew ?_))); (case side4_24 => exact (Kd.N_reads' HO109.out).2.1); rintro e w77 ⟨v111, rfl, ho0, hb⟩; refine ⟨_, rfl, ?_⟩; have n0_ := Aside0.mk (Kd.R_elder' (by (with_reducible repeat (first | apply Kd.R_alloc | apply Kd.R_drewN | apply Kd.R_drew)); exact HO103.out) (Kd.R_base ho0) hb); have n1_ := Aside0.mk (Kd.N_elder' (by (with_reducible repeat (first | apply Kd.N_alloc | apply Kd.N_drewN | apply Kd.N_drew)); exact HO109.out) (Kd.R_base ho0) hb); have n2_ := Aside0.mk (Kd.R_lower (Kd.R_new' ho0 (Kd.R_lt (by (with_reducible repeat (first | apply Kd.R_alloc | apply Kd.R_drewN | apply Kd.R_drew)); exact HO103.out))) (below_size (by repeat (first | (with_reducible first | exact HB.out | apply below_alloc | apply pw_below_drewN | apply below_drew1) | exact HB.out)))); have n3_ := Aside0.mk (below_step (by repeat (first | (with_reducible first | exact HB.out | apply below_alloc | apply pw_below_drewN | apply below_drew1) | exact HB.out)) hb); clear HO103; clear HO109; clear HB; have HO103 := n0_; have HO109 := n1_; have HO112 := n2_; have HB := n3_; clear n0_ n1_ n2_ n3_; (try clear hb); (try clear hb2); (try clear hk); (try clear hi); (try clear ho0); obtain ⟨Ao78, co78, eo78⟩ := Kd.R_slice HO112.out; subst eo78))
   go_ret
   exact ⟨by first | rfl | (simp [errW_none, errW_some] <;> rfl) | (simp [*, errW_none, errW_some] <;> rfl), by repeat (first | (with_reducible first | exact HB.out | apply below_alloc | apply pw_below_drewN | apply below_drew1) | exact HB.out)⟩
 ·rw [if_neg c2] at H
  have c2b0 : (t113 == 0) = false := beq_eq_false_iff_ne.mpr c2
  have c2b1 : (t113 != 0) = true := bne_iff_ne.mpr c2
  obtain rfl := Option.some.inj H
  go_enter Tryd.func5, Tryd.ntmps5
  go_wp2_with (first | ((with_reducible refine gate_dst (N := 4) rfl ?_); (try (refine gate_guard (by rfl) ?_; dsimp only)); refine Kd.R_lit (Kd.int .u8) _ 5 ?hg_25 (N := 4) ?hd_25 (xs := ([7] : List Int)) (inner := [.int .u8 7]) (ok := fun _ => True) (okp := fun _ => True) ?hr_25 ?hp_25 (fun _ hk => hk) trivial (Below.refl _ _) (Nat.le_refl _) (by simp) ?_; (case hd_25 => rfl); (case hg_25 => rfl); (case hr_25 => first | (go_simp; done) | (go_simp; rfl)); (case hp_25 => exact (Reps.one (show Kd.M (Kd.int .u8) _ _ _ 7 [.int .u8 7] from rfl) (Reps.none _ _))); intro v102 w79 ho80 hb hg_ hnew_; clear hg_ hnew_; (first | rw [← Ny101.out] at ho80 | (simp only [Int.reduceToNat] at ho80; rw [← Ny101.out] at ho80)); have n0_ := Aside0.mk (Kd.R_lower ho80 (below_size (by repeat (first | (with_reducible first | exact HB.out | apply below_alloc | apply pw_below_drewN | apply below_drew1) | exact HB.out)))); have n1_ := Aside0.mk (below_step (by repeat (first | (with_reducible first | exact HB.out | apply below_alloc | apply pw_below_drewN | apply below_drew1) | exact HB.out)) hb); clear HB; have HO103 := n0_; have HB := n1_; clear n0_ n1_; clear hb ho80) | ((with_reducible refine gate_dst (N := 5) rfl ?_); (try (refine gate_guard (by rfl) ?_; dsimp only)); refine Kd.R_lit (Kd.int .u8) _ 5 ?hg_26 (N := 5) ?hd_26 (xs := ([3] : List Int)) (inner := [.int .u8 3]) (ok := fun _ => True) (okp := fun _ => True) ?hr_26 ?hp_26 (fun _ hk => hk) trivial (Below.refl _ _) (Nat.le_refl _) (by simp) ?_; (case hd_26 => rfl); (case hg_26 => rfl); (case hr_26 => first | (go_simp; done) | (go_simp; rfl)); (case hp_26 => exact (Reps.one (show Kd.M (Kd.int .u8) _ _ _ 3 [.int .u8 3] from rfl) (Reps.none _ _))); intro v105 w81 ho82 hb hg_ hnew_; clear hg_ hnew_; (first | rw [← Ny104.out] at ho82 | (simp only [Int.reduceToNat] at ho82; rw [← Ny104.out] at ho82)); have n0_ := Aside0.mk (Kd.R_elder' (by (with_reducible repeat (first | apply Kd.R_alloc | apply Kd.R_drewN | apply Kd.R_drew)); exact HO103.out) (Kd.R_base ho82) hb); have n1_ := Aside0.mk (Kd.R_lower (Kd.R_new' ho82 (Kd.R_lt (by (with_reducible repeat (first | apply Kd.R_alloc | apply Kd.R_drewN | apply Kd.R_drew)); exact HO103.out))) (below_size (by repeat (first | (with_reducible first | exact HB.out | apply below_alloc | apply pw_below_drewN | apply below_drew1) | exact HB.out)))); have n2_ := Aside0.mk (below_step (by repeat (first | (with_reducible first | exact HB.out | apply below_alloc | apply pw_below_drewN | apply below_drew1) | exact HB.out)) hb); clear HO103; clear HB; have HO103 := n0_; have HO106 := n1_; have HB := n2_; clear n0_ n1_ n2_; clear hb ho82; obtain ⟨Ao83, co83, eo83⟩ := Kd.R_slice HO106.out; subst eo83) | ((with_reducible refine gate_dst (N := 7) rfl ?_); (try (refine gate_guard (by rfl) ?_; dsimp only)); refine Kd.N_lit k39 _ 39 ?hg_27 (N' := 7) ?hd_27 (xs := ([(⟨53, y104⟩ : S39)] : List (S39))) (inner := [.int .i64 53, .slice Ao83 y104.length co83]) (ok := (fun k_ => some k_ ≠ (v102 : Value).ownBlock)) (okp := (fun k_ => some k_ ≠ (v102 : Value).ownBlock)) ?hr_27 ?hp_27 (fun _ hk => hk) ((show ∀ k_, w81.heap.size ≤ k_ → (fun k_ => some k_ ≠ (v102 : Value).ownBlock) k_ from fun k_ hk => Kd.fresh' (Kd.R_lt (by (with_reducible repeat (first | apply Kd.R_alloc | apply Kd.R_drewN | apply Kd.R_drew)); exact HO103.out)) k_ hk) _ (Nat.le_refl _)) (Below.refl _ _) (Nat.le_refl _) (by simp) ?_; (case hd_27 => rfl); (case hg_27 => rfl); (case hr_27 => first | (go_simp; done) | (go_simp; rfl)); (case hp_27 => exact (Reps.c2 (show Kd.FK k39 _ _ (⟨53, y104⟩ : S39) [.int .i64 53, .slice Ao83 y104.length co83] from (k39_mkF _ _ (⟨53, y104⟩ : S39) (Kd.R_reads' (Kd.R_mono (ok' := (fun k_ => some k_ ≠ (v102 : Value).ownBlock)) (HO106.out) (fun k_ hk => hk.2))).2.1 (Kd.R_F (Kd.R_mono (ok' := (fun k_ => some k_ ≠ (v102 : Value).ownBlock)) (HO106.out) (fun k_ hk => hk.2))))) (Reps.none _ _))); intro v108 w84 ho85 hb hg_ hnew_; clear hg_ hnew_; (first | rw [← Ny107.out] at ho85 | (simp only [Int.reduceToNat] at ho85; rw [← Ny107.out] at ho85)); have n0_ := Aside0.mk (Kd.R_below (by (with_reducible repeat (first | apply Kd.R_alloc | apply Kd.R_drewN | apply Kd.R_drew)); exact HO103.out) hb); have n1_ := Aside0.mk (Kd.N_lower ho85 (below_size (by repeat (first | (with_reducible first | exact HB.out | apply below_alloc | apply pw_below_drewN | apply below_drew1) | exact HB.out)))); have n2_ := Aside0.mk (below_step (by repeat (first | (with_reducible first | exact HB.out | apply below_alloc | apply pw_below_drewN | apply below_drew1) | exact HB.out)) hb); clear HO103; clear HB; clear HO106; have HO103 := n0_; have HO109 := n1_; have HB := n2_; clear n0_ n1_ n2_; clear hb ho85; obtain ⟨Ao86, co86, eo86⟩ := Kd.N_slice HO109.out; subst eo86; obtain ⟨Ao87, co87, eo87⟩ := Kd.R_slice HO103.out; subst eo87) | ((with_reducible refine gate_callee (f := 10) rfl ?_); refine goesL_ (some 9) rfl rfl Tryd.func10 (by kernel_rfl) rfl #[.agg #[.int .i64 1, .int .u32 258, .int .i64 0, .int .i64 0, .int .u32 0, .int .u32 0, .int .u32 0, .int .u32 0, .slice Ao87 y101.length co87, .slice Ao86 y107.length co86]] rfl (by (try simp only [List.map_toArray, List.map_cons, List.map_nil]); first | done | rfl | (simp only [List.length_drop, List.length_take]; rfl)) ?_; (with_reducible refine (packet_Encode.calls k 1 258 0 0 0 0 0 0 _ _ y101 _ _ y107 t110 t113 _ ?side1_28 ?side2_28 ?side3_28 ?side4_28 A1.out).mono ?_); (case side1_28 => repeat (first | exact (Kd.R_reads' HO103.out).2.2 | (with_reducible refine Kd.C_alloc ?_ _) | (with_reducible refine Kd.C_drewN ?_ _) | (with_reducible refine Kd.C_drew ?_))); (case side2_28 => exact (Kd.R_reads' HO103.out).2.1); (case side3_28 => repeat (first | exact (Kd.N_reads' HO109.out).2.2 | (with_reducible refine Kd.C_alloc ?_ _) | (with_reducible refine Kd.C_drewN ?_ _) | (with_reducible refine Kd.C_drew ?_))); (case side4_28 => exact (Kd.N_reads' HO109.out).2.1); rintro e w88 ⟨v111, rfl, ho0, hb⟩; refine ⟨_, rfl, ?_⟩; have n0_ := Aside0.mk (Kd.R_elder' (by (with_reducible repeat (first | apply Kd.R_alloc | apply Kd.R_drewN | apply Kd.R_drew)); exact HO103.out) (Kd.R_base ho0) hb); have n1_ := Aside0.mk (Kd.N_elder' (by (with_reducible repeat (first | apply Kd.N_alloc | apply Kd.N_drewN | apply Kd.N_drew)); exact HO109.out) (Kd.R_base ho0) hb); have n2_ := Aside0.mk (Kd.R_lower (Kd.R_new' ho0 (Kd.R_lt (by (with_reducible repeat (first | apply Kd.R_alloc | apply Kd.R_drewN | apply Kd.R_drew)); exact HO103.out))) (below_size (by repeat (first | (with_reducible first | exact HB.out | apply below_alloc | apply pw_below_drewN | apply below_drew1) | exact HB.out)))); have n3_ := Aside0.mk (below_step (by repeat (first | (with_reducible first | exact HB.out | apply below_alloc | apply pw_below_drewN | apply below_drew1) | exact HB.out)) hb); clear HO103; clear HO109; clear HB; have HO103 := n0_; have HO109 := n1_; have HO112 := n2_; have HB := n3_; clear n0_ n1_ n2_ n3_; (try clear hb); (try clear hb2); (try clear hk); (try clear hi); (try clear ho0)))
  go_ret
  exact ⟨by first | rfl | (simp [errW_none, errW_some] <;> rfl) | (simp [*, errW_none, errW_some] <;> rfl), by repeat (first | (with_reducible first | exact HB.out | apply below_alloc | apply pw_below_drewN | apply below_drew1) | exact HB.out)⟩

end Go.Proofs.YtmbfdmceameghaaDoor.Pr
end

section
-- written by a program of this session (wip/tools/gen.py) over the kit's print
namespace Go.Proofs.YtmbfdmceameghaaDoor.Pr
open Go.RowKit Go.Proofs.YtmbfdmceameghaaDoorW.PrintWords Go.Proofs.YtmbfdmceameghaaDoorW.PrintLast Go.Proofs.YtmbfdmceameghaaDoorW.PrintMore
attribute [local go_sem] max2_int min2_int max_two min_two max_three min_three max_four min_four   -- for this text's walks alone
set_option linter.unusedVariables false
set_option linter.unusedSimpArgs false

/-! ### lessorref03_Few: function 9 -/
def lessorref03_Few.f (k : Nat) (a0_0 : Int) (a0_1 : Int) (a0_2 : Int) (a0_3 : Int) (a0_4 : Int) (a0_5 : Int) (a0_6 : Int) (a0_7 : Int) (l0_8 : List Int) (l0_9 : List (S39)) : Option (Bool) := (lessorref02_Few.f k l0_9).bind fun t363 => (if t363 = true then (some (decide ((l0_8.length : Int) < 1000))) else (some false))
theorem lessorref03_Few.mono : ∀ a0 a1 a2 a3 a4 a5 a6 a7 a8 a9 k, LeO (lessorref03_Few.f k a0 a1 a2 a3 a4 a5 a6 a7 a8 a9) (lessorref03_Few.f (k + 1) a0 a1 a2 a3 a4 a5 a6 a7 a8 a9) := by
 intro a0 a1 a2 a3 a4 a5 a6 a7 a8 a9 k
 unfold lessorref03_Few.f
 repeat' first
   | (with_reducible exact lessorref02_Few.mono _ _)
   | (with_reducible exact LeO.refl _)
   | (with_reducible exact LeO.none _)
   | (with_reducible refine LeO.ite ?_ ?_)
   | (with_reducible refine LeO.bind ?_ (fun _ => ?_))
   | exact lessorref02_Few.mono _ _
   | exact LeO.none _
   | refine LeO.ite ?_ ?_
   | refine LeO.bind ?_ (fun _ => ?_)
set_option maxHeartbeats 8000000 in
set_option maxRecDepth 100000 in
theorem lessorref03_Few.calls (k : Nat) (a0_0 : Int) (a0_1 : Int) (a0_2 : Int) (a0_3 : Int) (a0_4 : Int) (a0_5 : Int) (a0_6 : Int) (a0_7 : Int) (A0_8 : Option Addr) (c0_8 : Nat) (l0_8 : List Int) (A0_9 : Option Addr) (c0_9 : Nat) (l0_9 : List (S39)) (r : Bool) (w : World) (hr0_8 : Kd.C (Kd.int .u8) w A0_8 l0_8.length l0_8) (hc0_8 : l0_8.length ≤ c0_8) (hr0_9 : Kd.C k39 w A0_9 l0_9.length l0_9) (hc0_9 : l0_9.length ≤ c0_9) (h : lessorref03_Few.f k a0_0 a0_1 a0_2 a0_3 a0_4 a0_5 a0_6 a0_7 l0_8 l0_9 = some r) :
  Calls Tryd.prog 9 #[.agg #[.int .i64 a0_0, .int .u32 a0_1, .int .i64 a0_2, .int .i64 a0_3, .int .u32 a0_4, .int .u32 a0_5, .int .u32 a0_6, .int .u32 a0_7, .slice A0_8 l0_8.length c0_8, .slice A0_9 l0_9.length c0_9]] w fun e w' => e = .returned (.bool r) ∧ Below w.heap.size w w' := by
 have hu28 := Tryd.underlying28
 have HR0_8 := Aside0.mk hr0_8
 have HC0_8 := Aside0.mk hc0_8
 clear hr0_8 hc0_8
 have HR0_9 := Aside0.mk hr0_9
 have HC0_9 := Aside0.mk hc0_9
 clear hr0_9 hc0_9
 have HB := Aside0.mk (Below.refl w.heap.size w)
 have H : ((lessorref02_Few.f k l0_9).bind fun t363 => (if t363 = true then (some (decide ((l0_8.length : Int) < 1000))) else (some false))) = some r := h
 clear h
 replace H := Option.bind_eq_some_iff.mp H
 obtain ⟨t363, A20, H⟩ := H
 replace H : (if t363 = true then (some (decide ((l0_8.length : Int) < 1000))) else (some false)) = some r := H
 have A2 := Aside0.mk A20
 clear A20
 by_cases c3 : t363 = true
 ·subst c3
  have H1 : (some (decide ((l0_8.length : Int) < 1000))) = some r := by rw [if_pos rfl] at H; exact H
  clear H
  have H := H1
  clear H1
  obtain rfl := Option.some.inj H
  go_enter Tryd.func9, Tryd.ntmps9
  go_wp2_with (first | ((with_reducible refine gate_dst (N := 1) rfl ?_); (try (refine gate_guard (by rfl) ?_; dsimp only)); refine box_event ?hg_1 (N := 1) ?hd_1 (cs := #[.int .i64 a0_0, .int .u32 a0_1, .int .i64 a0_2, .int .i64 a0_3, .int .u32 a0_4, .int .u32 a0_5, .int .u32 a0_6, .int .u32 a0_7, .slice A0_8 l0_8.length c0_8, .slice A0_9 l0_9.length c0_9]) (t := 28) ?hr_1 ?_; (case hd_1 => rfl); (case hg_1 => rfl); (case hr_1 => first | (go_simp; done) | (go_simp; rfl)); intro gb362 hg w4 hbox hb; have n0_ := Aside0.mk (below_step (by repeat (first | (with_reducible first | exact HB.out | apply below_alloc | apply pw_below_drewN | apply below_drew1) | exact HB.out)) hb); have n1_ := Aside0.mk (hbox); have n2_ := Aside0.mk ((by rw [hg]; exact (below_size (by repeat (first | (with_reducible first | exact HB.out | apply below_alloc | apply pw_below_drewN | apply below_drew1) | exact HB.out))) : w.heap.size ≤ gb362)); have n3_ := Aside0.mk ((by rw [hg]; exact (below_size (by repeat (first | (with_reducible first | exact HB.out | apply below_alloc | apply pw_below_drewN | apply below_drew1) | exact HB.out))) : w.heap.size ≤ gb362)); clear HB; have HB := n0_; have BK362 := n1_; have GW362 := n2_; have GE362 := n3_; clear n0_ n1_ n2_ n3_; clear hb hbox hg; have hcz5_0 : w4.cell? ⟨gb362, 0, none⟩ = some (.int .i64 a0_0) := (blk_cell BK362.out 0).trans rfl; have hcz5_1 : w4.cell? ⟨gb362, 1, none⟩ = some (.int .u32 a0_1) := (blk_cell BK362.out 1).trans rfl; have hcz5_2 : w4.cell? ⟨gb362, 2, none⟩ = some (.int .i64 a0_2) := (blk_cell BK362.out 2).trans rfl; have hcz5_3 : w4.cell? ⟨gb362, 3, none⟩ = some (.int .i64 a0_3) := (blk_cell BK362.out 3).trans rfl; have hcz5_4 : w4.cell? ⟨gb362, 4, none⟩ = some (.int .u32 a0_4) := (blk_cell BK362.out 4).trans rfl; have hcz5_5 : w4.cell? ⟨gb362, 5, none⟩ = some (.int .u32 a0_5) := (blk_cell BK362.out 5).trans rfl; have hcz5_6 : w4.cell? ⟨gb362, 6, none⟩ = some (.int .u32 a0_6) := (blk_cell BK362.out 6).trans rfl; have hcz5_7 : w4.cell? ⟨gb362, 7, none⟩ = some (.int .u32 a0_7) := (blk_cell BK362.out 7).trans rfl; have hcz5_8 : w4.cell? ⟨gb362, 8, none⟩ = some (.slice A0_8 l0_8.length c0_8) := (blk_cell BK362.out 8).trans rfl; have hcz5_9 : w4.cell? ⟨gb362, 9, none⟩ = some (.slice A0_9 l0_9.length c0_9) := (blk_cell BK362.out 9).trans rfl; have hfz5_0 := blk_frozen BK362.out 0; have hfz5_1 := blk_frozen BK362.out 1; have hfz5_2 := blk_frozen BK362.out 2; have hfz5_3 := blk_frozen BK362.out 3; have hfz5_4 := blk_frozen BK362.out 4; have hfz5_5 := blk_frozen BK362.out 5; have hfz5_6 := blk_frozen BK362.out 6; have hfz5_7 := blk_frozen BK362.out 7; have hfz5_8 := blk_frozen BK362.out 8; have hfz5_9 := blk_frozen BK362.out 9) | ((with_reducible refine gate_callee (f := 17) rfl ?_); refine goesL_ (some 6) rfl rfl Tryd.func17 (by kernel_rfl) rfl #[.slice A0_9 l0_9.length c0_9] rfl (by (try simp only [List.map_toArray, List.map_cons, List.map_nil]); first | done | rfl | (simp only [List.length_drop, List.length_take]; rfl)) ?_; (with_reducible refine (lessorref02_Few.calls k _ _ l0_9 true _ ?side1_2 ?side2_2 A2.out).mono ?_); (case side1_2 => repeat (first | exact (Kd.C_below HR0_9.out HB.out) | exact (Kd.C_below (Aside0.out (by assumption)) HB.out) | (with_reducible refine Kd.C_alloc ?_ _) | (with_reducible refine Kd.C_drewN ?_ _) | (with_reducible refine Kd.C_drew ?_))); (case side2_2 => exact HC0_9.out); rintro e w' ⟨rfl, ⟨nd, rfl⟩⟩; refine ⟨_, rfl, ?_⟩))
  go_ret
  exact ⟨by first | rfl | (simp [errW_none, errW_some] <;> rfl) | (simp [*, errW_none, errW_some] <;> rfl), by repeat (first | (with_reducible first | exact HB.out | apply below_alloc | apply pw_below_drewN | apply below_drew1 | refine below_set ?_ GE362.out) | exact HB.out)⟩
 ·replace c3 := Bool.eq_false_iff.mpr c3
  subst c3
  have H1 : (some false) = some r := by rw [if_neg (show ¬ (false = true) by decide)] at H; exact H
  clear H
  have H := H1
  clear H1
  obtain rfl := Option.some.inj H
  go_enter Tryd.func9, Tryd.ntmps9
  go_wp2_with (first | ((with_reducible refine gate_dst (N := 1) rfl ?_); (try (refine gate_guard (by rfl) ?_; dsimp only)); refine box_event ?hg_3 (N := 1) ?hd_3 (cs := #[.int .i64 a0_0, .int .u32 a0_1, .int .i64 a0_2, .int .i64 a0_3, .int .u32 a0_4, .int .u32 a0_5, .int .u32 a0_6, .int .u32 a0_7, .slice A0_8 l0_8.length c0_8, .slice A0_9 l0_9.length c0_9]) (t := 28) ?hr_3 ?_; (case hd_3 => rfl); (case hg_3 => rfl); (case hr_3 => first | (go_simp; done) | (go_simp; rfl)); intro gb362 hg w6 hbox hb; have n0_ := Aside0.mk (below_step (by repeat (first | (with_reducible first | exact HB.out | apply below_alloc | apply pw_below_drewN | apply below_drew1) | exact HB.out)) hb); have n1_ := Aside0.mk (hbox); have n2_ := Aside0.mk ((by rw [hg]; exact (below_size (by repeat (first | (with_reducible first | exact HB.out | apply below_alloc | apply pw_below_drewN | apply below_drew1) | exact HB.out))) : w.heap.size ≤ gb362)); have n3_ := Aside0.mk ((by rw [hg]; exact (below_size (by repeat (first | (with_reducible first | exact HB.out | apply below_alloc | apply pw_below_drewN | apply below_drew1) | exact HB.out))) : w.heap.size ≤ gb362)); clear HB; have HB := n0_; have BK362 := n1_; have GW362 := n2_; have GE362 := n3_; clear n0_ n1_ n2_ n3_; clear hb hbox hg; have hcz7_0 : w6.cell? ⟨gb362, 0, none⟩ = some (.int .i64 a0_0) := (blk_cell BK362.out 0).trans rfl; have hcz7_1 : w6.cell? ⟨gb362, 1, none⟩ = some (.int .u32 a0_1) := (blk_cell BK362.out 1).trans rfl; have hcz7_2 : w6.cell? ⟨gb362, 2, none⟩ = some (.int .i64 a0_2) := (blk_cell BK362.out 2).trans rfl; have hcz7_3 : w6.cell? ⟨gb362, 3, none⟩ = some (.int .i64 a0_3) := (blk_cell BK362.out 3).trans rfl; have hcz7_4 : w6.cell? ⟨gb362, 4, none⟩ = some (.int .u32 a0_4) := (blk_cell BK362.out 4).trans rfl; have hcz7_5 : w6.cell? ⟨gb362, 5, none⟩ = some (.int .u32 a0_5) := (blk_cell BK362.out 5).trans rfl; have hcz7_6 : w6.cell? ⟨gb362, 6, none⟩ = some (.int .u32 a0_6) := (blk_cell BK362.out 6).trans rfl; have hcz7_7 : w6.cell? ⟨gb362, 7, none⟩ = some (.int .u32 a0_7) := (blk_cell BK362.out 7).trans rfl; have hcz7_8 : w6.cell? ⟨gb362, 8, none⟩ = some (.slice A0_8 l0_8.length c0_8) := (blk_cell BK362.out 8).trans rfl; have hcz7_9 : w6.cell? ⟨gb362, 9, none⟩ = some (.slice A0_9 l0_9.length c0_9) := (blk_cell BK362.out 9).trans rfl; have hfz7_0 := blk_frozen BK362.out 0; have hfz7_1 := blk_frozen BK362.out 1; have hfz7_2 := blk_frozen BK362.out 2; have hfz7_3 := blk_frozen BK362.out 3; have hfz7_4 := blk_frozen BK362.out 4; have hfz7_5 := blk_frozen BK362.out 5; have hfz7_6 := blk_frozen BK362.out 6; have hfz7_7 := blk_frozen BK362.out 7; have hfz7_8 := blk_frozen BK362.out 8; have hfz7_9 := blk_frozen BK362.out 9) | ((with_reducible refine gate_callee (f := 17) rfl ?_); refine goesL_ (some 6) rfl rfl Tryd.func17 (by kernel_rfl) rfl #[.slice A0_9 l0_9.length c0_9] rfl (by (try simp only [List.map_toArray, List.map_cons, List.map_nil]); first | done | rfl | (simp only [List.length_drop, List.length_take]; rfl)) ?_; (with_reducible refine (lessorref02_Few.calls k _ _ l0_9 false _ ?side1_4 ?side2_4 A2.out).mono ?_); (case side1_4 => repeat (first | exact (Kd.C_below HR0_9.out HB.out) | exact (Kd.C_below (Aside0.out (by assumption)) HB.out) | (with_reducible refine Kd.C_alloc ?_ _) | (with_reducible refine Kd.C_drewN ?_ _) | (with_reducible refine Kd.C_drew ?_))); (case side2_4 => exact HC0_9.out); rintro e w' ⟨rfl, ⟨nd, rfl⟩⟩; refine ⟨_, rfl, ?_⟩))
  go_ret
  exact ⟨by first | rfl | (simp [errW_none, errW_some] <;> rfl) | (simp [*, errW_none, errW_some] <;> rfl), by repeat (first | (with_reducible first | exact HB.out | apply below_alloc | apply pw_below_drewN | apply below_drew1 | refine below_set ?_ GE362.out) | exact HB.out)⟩

end Go.Proofs.YtmbfdmceameghaaDoor.Pr
end
