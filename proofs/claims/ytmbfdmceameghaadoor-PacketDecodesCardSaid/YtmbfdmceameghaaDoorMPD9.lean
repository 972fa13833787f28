/-
  Packets as bytes, over lists: what packet.Right, packet.Encode and the reference's compute of few options.
  packet's reader (take, byte, short, long) and must: what each does. Condition: the bytes are such.
  packet.read in the print's form. Condition: bytes, fewer than 2^40.
  packet.Decode in the print's form. Condition: bytes, fewer than 2^40.
  Packets of bytes, over lists: what packet.Decode and the reference's Decode compute; what is encoded is decoded. No condition of their own.
  Printed: PrF13.
-/
import Derived.Test.YtmbfdmceameghaaDoorMPD5
import Derived.Test.YtmbfdmceameghaaDoorMPD6
import Derived.Test.YtmbfdmceameghaaDoorMPD8
import Derived.Lib.Hide
import Derived.Defers
import Derived.Recover
import Derived.Laws.BitsLemmas
import Derived.Test.YtmbfdmceameghaaDoorMPD4
import Derived.Test.YtmbfdmceameghaaDoorMPD2

section
namespace Go.Proofs.YtmbfdmceameghaaDoor.PP
open Go.RowKit Go.Proofs.YtmbfdmceameghaaDoor Go.Proofs.YtmbfdmceameghaaDoor.Pr Go.Proofs.YtmbfdmceameghaaDoor.PO Go.Proofs.YtmbfdmceameghaaDoorW.PrintWords Go.Proofs.YtmbfdmceameghaaDoorW.PrintLast Go.Proofs.YtmbfdmceameghaaDoorW.PrintMore
set_option linter.unusedVariables false
set_option linter.unusedSimpArgs false

theorem wrapP {x : Int} (h0 : 0 ≤ x) (h1 : x < 9223372036854775808) : wrap64 x = x := by unfold wrap64; omega
def okPk (a0 a2 a3 : Int) (l8 : List Int) (l9 : List Opt) : Prop := (a0 = 1 ∨ a0 = 2) ∧ (1 ≤ l8.length ∧ l8.length ≤ 16) ∧ (0 ≤ a2 ∧ a2 ≤ 65535) ∧ (0 ≤ a3 ∧ a3 ≤ 65535) ∧ (encR l9).2 = 0
instance (a0 a2 a3 : Int) (l8 : List Int) (l9 : List Opt) : Decidable (okPk a0 a2 a3 l8 l9) := by unfold okPk; infer_instance
theorem right_eq (a0 a1 a2 a3 a4 a5 a6 a7 : Int) (l8 : List Int) (l9 : List Opt) (hf : few l9) (k : Nat) (hk : 2010 ≤ k) : packet_Right.f k a0 a1 a2 a3 a4 a5 a6 a7 l8 l9 = some (decide (okPk a0 a2 a3 l8 l9)) := by
  obtain ⟨k, rfl⟩ : ∃ m, k = m + 1 := ⟨k - 1, by omega⟩
  unfold packet_Right.f
  rw [encode_eq l9 hf _ (by omega)]
  simp only [Option.bind_some, packet_Right.j0]
  by_cases c0 : a0 = 1 ∨ a0 = 2
  · have e : (if a0 = 1 then false else (a0 != 2)) = false := by
      rcases c0 with rfl | rfl <;> decide
    have e2 : ∀ (f : Bool → Option Bool), (if a0 = 1 then f false else f (a0 != 2)) = f false := by
      intro f
      rcases c0 with rfl | rfl
      · rfl
      · rfl
    rw [e2 (fun b => if b = true then some false else (if (l8.length : Int) < 1 then (some false) else (if (l8.length : Int) > 16 then (some false) else (if a2 ≥ 0 then (if a2 ≤ 65535 then (if a3 ≥ 0 then (if a3 ≤ 65535 then (some ((encR l9).2 == 0)) else (some false)) else (some false)) else (some false)) else (some false)))))]
    simp only [Bool.false_eq_true, if_false]
    by_cases c : (1 ≤ l8.length ∧ l8.length ≤ 16) ∧ (0 ≤ a2 ∧ a2 ≤ 65535) ∧ (0 ≤ a3 ∧ a3 ≤ 65535)
    · obtain ⟨⟨x1, x2⟩, ⟨x3, x4⟩, x5, x6⟩ := c
      rw [if_neg (by omega), if_neg (by omega), if_pos x3, if_pos x4, if_pos x5, if_pos x6]
      congr 1
      rw [Bool.eq_iff_iff, beq_iff_eq, decide_eq_true_iff]
      unfold okPk
      exact ⟨fun h => ⟨c0, ⟨x1, x2⟩, ⟨x3, x4⟩, ⟨x5, x6⟩, h⟩, fun h => h.2.2.2.2⟩
    · rw [decide_eq_false (fun h => c ⟨h.2.1, h.2.2.1, h.2.2.2.1⟩)]
      repeat' split
      all_goals first | rfl | (exfalso; omega)
  · have n1 : ¬ a0 = 1 := fun h => c0 (.inl h)
    have n2 : ¬ a0 = 2 := fun h => c0 (.inr h)
    rw [if_neg n1, show (a0 != 2) = true from bne_iff_ne.2 n2, decide_eq_false (fun h => c0 h.1)]
    rfl
theorem ref_right_eq (a0 a1 a2 a3 a4 a5 a6 a7 : Int) (l8 : List Int) (l9 : List Opt) (hf : few l9) (k : Nat) (hk : 4310 ≤ k) : lessorref03_Right.f k a0 a1 a2 a3 a4 a5 a6 a7 l8 l9 = some (decide (okPk a0 a2 a3 l8 l9)) := by
  have R := ref_encode_eq l9 hf k (by omega)
  have body : (if a2 < 0 then (some false) else (if a2 > 65535 then (some false) else (if a3 < 0 then (some false) else (if a3 > 65535 then (some false) else (if (l8.length : Int) < 1 then (some false) else (if (l8.length : Int) > 16 then (some false) else ((lessorref02_Encode.f k l9).bind fun bt141 => (some (bt141.2 == 0))))))))) = some (decide ((1 ≤ l8.length ∧ l8.length ≤ 16) ∧ (0 ≤ a2 ∧ a2 ≤ 65535) ∧ (0 ≤ a3 ∧ a3 ≤ 65535) ∧ (encR l9).2 = 0)) := by
    rw [R]
    simp only [Option.bind_some]
    by_cases c : (1 ≤ l8.length ∧ l8.length ≤ 16) ∧ (0 ≤ a2 ∧ a2 ≤ 65535) ∧ (0 ≤ a3 ∧ a3 ≤ 65535)
    · obtain ⟨⟨x1, x2⟩, ⟨x3, x4⟩, x5, x6⟩ := c
      rw [if_neg (by omega), if_neg (by omega), if_neg (by omega), if_neg (by omega), if_neg (by omega), if_neg (by omega)]
      congr 1
      rw [Bool.eq_iff_iff, beq_iff_eq, decide_eq_true_iff]
      exact ⟨fun h => ⟨⟨x1, x2⟩, ⟨x3, x4⟩, ⟨x5, x6⟩, h⟩, fun h => h.2.2.2⟩
    · rw [decide_eq_false (fun h => c ⟨h.1, h.2.1, h.2.2.1⟩)]
      repeat' split
      all_goals first | rfl | (exfalso; omega)
  unfold lessorref03_Right.f
  by_cases c1 : a0 = 1
  · rw [if_pos c1, body]
    congr 1
    rw [Bool.eq_iff_iff, decide_eq_true_iff, decide_eq_true_iff]
    exact ⟨fun h => ⟨.inl c1, h⟩, fun h => h.2⟩
  · rw [if_neg c1]
    by_cases c2 : a0 = 2
    · rw [if_pos c2, body]
      congr 1
      rw [Bool.eq_iff_iff, decide_eq_true_iff, decide_eq_true_iff]
      exact ⟨fun h => ⟨.inr c2, h⟩, fun h => h.2⟩
    · rw [if_neg c2, decide_eq_false (fun h => by rcases h.1 with h | h; exact c1 h; exact c2 h)]

/-! ### numbers -/
theorem num_step (k : Nat) (n : Int) (h0 : 0 ≤ n) (h1 : n < 9223372036854775808) (xs : List Int) (i : Nat) (hi : i < xs.length) (hl : xs.length ≤ 100) : lessorref03_number.l0 (k + 1) n xs (i : Int) = lessorref03_number.l0 k (n / 256) (xs.set i (n % 256)) ((i : Int) - 1) := by
  simp only [lessorref03_number.l0]
  have e1 : wrap64 (Int.tdiv n 256) = n / 256 := by rw [Int.tdiv_eq_ediv_of_nonneg h0]; exact wrapP (by omega) (by omega)
  have e2 : Int.tmod n 256 % 256 = n % 256 := by rw [Int.tmod_eq_emod_of_nonneg h0]; omega
  have e3 : wrap64 ((i : Int) - 1) = (i : Int) - 1 := by unfold wrap64; omega
  rw [if_pos (by omega), if_pos (by omega), if_pos (by omega), e1, e2, e3, Int.toNat_natCast]
theorem num_end (k : Nat) (n : Int) (xs : List Int) : lessorref03_number.l0 (k + 1) n xs (-1) = some xs := by
  simp only [lessorref03_number.l0]
  rw [if_neg (by decide)]
theorem num4 (k : Nat) (hk : 5 ≤ k) (n : Int) (h0 : 0 ≤ n) (h1 : n < 4294967296) : lessorref03_number.f k (wrap64 n) 4 = some (pk4 n) := by
  obtain ⟨k, rfl⟩ : ∃ m, k = m + 5 := ⟨k - 5, by omega⟩
  unfold lessorref03_number.f
  rw [if_pos (by decide), if_pos (by decide), wrapP h0 (by omega), show wrap64 (4 - 1) = ((3 : Nat) : Int) from wrapP (by decide) (by decide), show List.replicate (Int.toNat 4) (0 : Int) = [0, 0, 0, 0] from rfl]
  show lessorref03_number.l0 (k + 4 + 1) n [0, 0, 0, 0] ((3 : Nat) : Int) = _
  rw [num_step _ n h0 (by omega) _ 3 (by decide) (by decide)]
  show lessorref03_number.l0 (k + 3 + 1) (n / 256) [0, 0, 0, n % 256] ((2 : Nat) : Int) = _
  rw [num_step _ _ (by omega) (by omega) _ 2 (by simp) (by simp)]
  show lessorref03_number.l0 (k + 2 + 1) (n / 256 / 256) [0, 0, n / 256 % 256, n % 256] ((1 : Nat) : Int) = _
  rw [num_step _ _ (by omega) (by omega) _ 1 (by simp) (by simp)]
  show lessorref03_number.l0 (k + 1 + 1) (n / 256 / 256 / 256) [0, n / 256 / 256 % 256, n / 256 % 256, n % 256] ((0 : Nat) : Int) = _
  rw [num_step _ _ (by omega) (by omega) _ 0 (by simp) (by simp)]
  show lessorref03_number.l0 (k + 1) _ [n / 256 / 256 / 256 % 256, n / 256 / 256 % 256, n / 256 % 256, n % 256] (-1) = _
  rw [num_end]
  unfold pk4 pk2
  congr 1
  simp only [List.cons_append, List.nil_append, List.cons.injEq, and_true]
  omega
theorem num2 (k : Nat) (hk : 5 ≤ k) (n : Int) (h0 : 0 ≤ n) (h1 : n ≤ 65535) : lessorref03_number.f k n 2 = some (pk2 n) := by
  obtain ⟨k, rfl⟩ : ∃ m, k = m + 5 := ⟨k - 5, by omega⟩
  unfold lessorref03_number.f
  rw [if_pos (by decide), if_pos (by decide), show wrap64 (2 - 1) = ((1 : Nat) : Int) from wrapP (by decide) (by decide), show List.replicate (Int.toNat 2) (0 : Int) = [0, 0] from rfl]
  show lessorref03_number.l0 (k + 4 + 1) n [0, 0] ((1 : Nat) : Int) = _
  rw [num_step _ n h0 (by omega) _ 1 (by decide) (by decide)]
  show lessorref03_number.l0 (k + 3 + 1) (n / 256) [0, n % 256] ((0 : Nat) : Int) = _
  rw [num_step _ _ (by omega) (by omega) _ 0 (by simp) (by simp)]
  show lessorref03_number.l0 (k + 2 + 1) _ [n / 256 % 256, n % 256] (-1) = _
  rw [num_end]
  rfl
/-! ### Encode -/
def encPk (a0 a1 a2 a3 a4 a5 a6 a7 : Int) (l8 : List Int) (l9 : List Opt) : List Int × Int := if okPk a0 a2 a3 l8 l9 then (pkHead a0 a1 a2 a3 a4 a5 a6 a7 l8 ++ (encR l9).1, 0) else ([], 1)
theorem encR_len (l : List Opt) : (encR l).1.length ≤ 1024 := by
  unfold encR
  split
  · split
    · simp
    · simp; omega
  · simp
theorem ref_pk_encode_eq (a0 a1 a2 a3 a4 a5 a6 a7 : Int) (hu : pkOk a1 a4 a5 a6 a7) (l8 : List Int) (l9 : List Opt) (hf : few l9) (k : Nat) (hk : 4310 ≤ k) : lessorref03_Encode.f k a0 a1 a2 a3 a4 a5 a6 a7 l8 l9 = some (encPk a0 a1 a2 a3 a4 a5 a6 a7 l8 l9) := by
  unfold lessorref03_Encode.f encPk
  rw [ref_right_eq _ _ _ _ _ _ _ _ _ _ hf k hk]
  simp only [Option.bind_some]
  by_cases c : okPk a0 a2 a3 l8 l9
  · obtain ⟨hu1, hu4, hu5, hu6, hu7⟩ := hu
    obtain ⟨c0, ⟨c1, c2⟩, ⟨c3, c4⟩, ⟨c5, c6⟩, c7⟩ := id c
    have he := encR_len l9
    have l4 := pk4_len
    have l2 : ∀ a, (pk2 a).length = 2 := fun _ => rfl
    have ez : wrap64 (wrap64 (16 - (l8.length : Int)) + 192) = 208 - (l8.length : Int) := by unfold wrap64; omega
    have ez2 : (208 - (l8.length : Int)).toNat = 208 - l8.length := by omega
    rw [decide_eq_true c, if_pos rfl, if_pos c, num4 k (by omega) a1 hu1.1 hu1.2, num2 k (by omega) a2 c3 c4, num2 k (by omega) a3 c5 c6, num4 k (by omega) a4 hu4.1 hu4.2, num4 k (by omega) a5 hu5.1 hu5.2, num4 k (by omega) a6 hu6.1 hu6.2, num4 k (by omega) a7 hu7.1 hu7.2, ref_encode_eq l9 hf k (by omega), ez, ez2]
    simp only [Option.bind_some, List.length_append, List.length_cons, List.length_nil, List.length_replicate, l4, l2]
    repeat rw [if_pos (by omega)]
    congr 1
  · rw [decide_eq_false c, if_neg (by decide), if_neg c]

end Go.Proofs.YtmbfdmceameghaaDoor.PP
end

section
namespace Go.Proofs.YtmbfdmceameghaaDoor
open Go.RowKit Go.Proofs.YtmbfdmceameghaaDoor.Pr Go.Proofs.YtmbfdmceameghaaDoorW.PrintWords Go.Proofs.YtmbfdmceameghaaDoorW.PrintLast Go.Proofs.YtmbfdmceameghaaDoorW.PrintMore
attribute [local go_sem] max2_int min2_int max_two min_two max_three min_three max_four min_four
set_option linter.unusedVariables false
set_option linter.unusedSimpArgs false

theorem wraps_i64P (n : Int) (h₀ : 0 ≤ n) (h₁ : n < 2 ^ 40) : IntKind.i64.wrap n = n := by rw [IntKind.wrap_i64]; omega
theorem or_join8 {x y : Int} (h0 : 0 ≤ x) (h1 : x ≤ 16777215) (h2 : 0 ≤ y) (h3 : y ≤ 255) : bits .or .i64 (x * 256) y = x * 256 + y :=
  bits_join .i64 40 (by decide) wraps_i64P 8 (x * 256) y (by omega) (by omega) (by omega) h2 (by omega) (by omega)
theorem or_join16 {x y : Int} (h0 : 0 ≤ x) (h1 : x ≤ 16777215) (h2 : 0 ≤ y) (h3 : y ≤ 65535) : bits .or .i64 (x * 65536) y = x * 65536 + y :=
  bits_join .i64 40 (by decide) wraps_i64P 16 (x * 65536) y (by omega) (by omega) (by omega) h2 (by omega) (by omega)
/-- The byte of a place. -/
def bA (l : List Int) (j : Nat) : Int := l.getD j 0
theorem bA_of {l : List Int} {j : Nat} (h : j < l.length) : bA l j = l[j] := by unfold bA; rw [List.getD_eq_getElem?_getD, List.getElem?_eq_getElem h]; rfl
theorem bA_in {l : List Int} (hb : ∀ x ∈ l, 0 ≤ x ∧ x ≤ 255) (j : Nat) : 0 ≤ bA l j ∧ bA l j ≤ 255 := by
  by_cases h : j < l.length
  · rw [bA_of h]; exact hb _ (List.getElem_mem h)
  · unfold bA; rw [List.getD_eq_getElem?_getD, List.getElem?_eq_none (by omega)]; simp
def sA (l : List Int) (j : Nat) : Int := bA l j * 256 + bA l (j + 1)
def lA (l : List Int) (j : Nat) : Int := sA l j * 65536 + sA l (j + 2)
theorem sA_in {l : List Int} (hb : ∀ x ∈ l, 0 ≤ x ∧ x ≤ 255) (j : Nat) : 0 ≤ sA l j ∧ sA l j ≤ 65535 := by
  have h1 := bA_in hb j; have h2 := bA_in hb (j + 1); unfold sA; omega
theorem lA_in {l : List Int} (hb : ∀ x ∈ l, 0 ≤ x ∧ x ≤ 255) (j : Nat) : 0 ≤ lA l j ∧ lA l j ≤ 4294967295 := by
  have h1 := sA_in hb j; have h2 := sA_in hb (j + 2); unfold lA; omega
/-- The reader at a place of its bytes. -/
def RdAt (w0 : World) (g : Nat) (l : List Int) (j : Nat) (W : World) : Prop := j ≤ l.length ∧ ∃ A c, Boxed W g 54 (.slice A (l.drop j).length c) ∧ (l.drop j).length ≤ c ∧ (Kd.int .u8).C w0 A (l.drop j).length (l.drop j)
theorem RdAt.lt {w0 W : World} {g j : Nat} {l : List Int} (h : RdAt w0 g l j W) : g < W.heap.size := by obtain ⟨_, A, c, hb, _⟩ := h; exact hb.lt
theorem RdAt.move {w0 W W' : World} {g j : Nat} {l : List Int} (h : RdAt w0 g l j W) (hm : W'.heap[g]? = W.heap[g]?) : RdAt w0 g l j W' := by
  obtain ⟨h0, A, c, hb, h1, h2⟩ := h
  exact ⟨h0, A, c, hm.trans hb, h1, h2⟩
abbrev faultP : List PanicEntry := [{ v := .iface 52 (.agg #[]), recovered := false }]
theorem OneBut.below {w0 W W' : World} {g : Nat} (h : OneBut W W' g) (hb : Below w0.heap.size w0 W) (hg : w0.heap.size ≤ g) : Below w0.heap.size w0 W' :=
  hb.trans ⟨h.os, h.tape, h.output, h.size, fun k hk => h.block k (Nat.lt_of_lt_of_le hk hb.size) (by omega)⟩
theorem OneBut.trans_ {W W' W2 : World} {g : Nat} (h : OneBut W W' g) (h2 : OneBut W' W2 g) : OneBut W W2 g :=
  ⟨h2.os.trans h.os, h2.tape.trans h.tape, h2.output.trans h.output, Nat.le_trans h.size h2.size, fun k hk hn => (h2.block k (Nat.lt_of_lt_of_le hk h.size) hn).trans (h.block k hk hn)⟩
theorem OneBut.refl_ (W : World) (g : Nat) : OneBut W W g := OneBut.of_below (Below.refl _ _) g
theorem rd_info : (Tryd.prog.info? 5).map (fun i => (i.zero, i.size, i.bytes)) = some (some (.int .u8 0), 1, 1) := by kernel_rfl

set_option maxHeartbeats 2000000 in
set_option maxRecDepth 100000 in
theorem rtake_ok (w0 : World) (g : Nat) (l : List Int) (j k : Nat) (W : World) (hr : RdAt w0 g l j W) (hk : j + k ≤ l.length) (hn : l.length < 1099511627776) :
    Calls Tryd.prog 27 #[.pointer (some ⟨g, 0, none⟩), .int .i64 (k : Int)] W fun e w' => (∃ A' c', e = .returned (.slice A' k c') ∧ k ≤ c' ∧ (Kd.int .u8).C w0 A' k ((l.drop j).take k)) ∧ RdAt w0 g l (j + k) w' ∧ OneBut W w' g := by
  obtain ⟨_, A, c, hb, hc, hC⟩ := hr
  have hlen : (l.drop j).length = l.length - j := List.length_drop ..
  obtain ⟨i0, hinf, hzz⟩ := Option.map_eq_some_iff.1 rd_info
  simp only [Prod.mk.injEq] at hzz
  have C1 := Kd.C_take (m := k) hC (by omega)
  have C2 := Kd.C_drop (c := c) (m := k) hC (by omega) hc
  rw [show (Kd.int .u8).sz = 1 from rfl, Nat.mul_one, List.drop_drop] at C2
  rw [show ((l.drop j).take k).length = k from by rw [List.length_take]; omega] at C1
  obtain ⟨n, hn0⟩ : ∃ n, n = (l.drop j).length := ⟨_, rfl⟩
  rw [← hn0] at hb hc hlen
  have r1 := cut_from (P := Tryd.prog) 54 5 .i64 Tryd.underlying54 hinf 1 hzz.2.1 A n c (k : Int) (by omega) (by omega)
  have r2 := cut_to (P := Tryd.prog) 54 5 .i64 Tryd.underlying54 hinf A n c (k : Int) (by omega) (by omega) hc
  simp only [Int.toNat_natCast, Nat.mul_one] at r1 r2
  have p1 : ((k : Int) > (n : Int)) = False := eq_false (by omega)
  have p2 : ((n : Int) < (k : Int)) = False := eq_false (by omega)
  have p3 : (n < k) = False := eq_false (by omega)
  obtain ⟨A2, hA2⟩ : ∃ A2, A2 = (if c = k then A else A.map (·.add k)) := ⟨_, rfl⟩
  obtain ⟨n2, hn2⟩ : ∃ n2, n2 = n - k := ⟨_, rfl⟩
  obtain ⟨c2, hc2⟩ : ∃ c2, c2 = c - k := ⟨_, rfl⟩
  rw [← hA2, ← hn2, ← hc2] at r1
  rw [← hA2] at C2
  have HE : Hid (n2 = (l.drop (j + k)).length ∧ n2 ≤ c2 ∧ k ≤ c ∧ j + k ≤ l.length) := ⟨by rw [List.length_drop]; omega, by omega, by omega, hk⟩
  have HC1 := Lib.hid C1
  have HC2 := Lib.hid C2
  have HBX := Lib.hid hb
  have y1 := hb.cell
  have z1 := hb.frozen
  clear hA2 hn2 hc2 hzz hinf hn0 hlen hk hC C1 C2 hb
  go_enter Tryd.func27, Tryd.ntmps27
  go_wp2_with fail
  go_ret
  refine ⟨⟨A, c, rfl, HE.out.2.2.1, HC1.out⟩, ⟨HE.out.2.2.2, A2, c2, ?_, ?_, HC2.out⟩, (OneBut.refl_ W g).set _⟩
  · rw [← HE.out.1]; exact HBX.out.set _
  · rw [← HE.out.1]; exact HE.out.2.1
set_option maxHeartbeats 1000000 in
set_option maxRecDepth 100000 in
theorem rtake_no (w0 : World) (g : Nat) (l : List Int) (j k : Nat) (W : World) (hr : RdAt w0 g l j W) (hk : l.length < j + k) :
    Calls Tryd.prog 27 #[.pointer (some ⟨g, 0, none⟩), .int .i64 (k : Int)] W fun e w' => e = .panicked faultP ∧ w' = W := by
  obtain ⟨hj, A, c, hb, hc, hC⟩ := hr
  have hlen : (l.drop j).length = l.length - j := List.length_drop ..
  obtain ⟨n, hn0⟩ : ∃ n, n = (l.drop j).length := ⟨_, rfl⟩
  rw [← hn0] at hb hlen
  have p1 : ((k : Int) > (n : Int)) = True := eq_true (by omega)
  have p2 : ((n : Int) < (k : Int)) = True := eq_true (by omega)
  have p3 : (n < k) = True := eq_true (by omega)
  have hpn : ∀ w : World, (Instr.panic (.iface 52 (.agg #[]))).run Tryd.prog w = .halt (.panic (.iface 52 (.agg #[]))) w := fun _ => rfl
  have y1 := hb.cell
  clear hn0 hlen hk hC hb hc hj
  go_enter Tryd.func27, Tryd.ntmps27
  go_wp2_with fail
  simp [bodyPost]

theorem must_yes (W : World) : Calls Tryd.prog 23 #[.bool true] W fun e w' => e = .returned (.tuple #[]) ∧ w' = W := by
  go_enter Tryd.func23, Tryd.ntmps23
  go_wp2_with fail
  first
    | (go_end0; exact ⟨rfl, rfl⟩)
    | (exact bodyPost_normal (results_none rfl _ _ _) rfl ⟨rfl, rfl⟩)
theorem must_no (W : World) : Calls Tryd.prog 23 #[.bool false] W fun e w' => e = .panicked faultP ∧ w' = W := by
  have hpn : ∀ w : World, (Instr.panic (.iface 52 (.agg #[]))).run Tryd.prog w = .halt (.panic (.iface 52 (.agg #[]))) w := fun _ => rfl
  go_enter Tryd.func23, Tryd.ntmps23
  go_wp2_with fail
  simp [bodyPost]

set_option maxHeartbeats 2000000 in
set_option maxRecDepth 100000 in
theorem rbyte_ok (w0 : World) (g : Nat) (l : List Int) (j : Nat) (W : World) (hr : RdAt w0 g l j W) (hB : Below w0.heap.size w0 W) (hg : w0.heap.size ≤ g) (hk : j < l.length) (hby : ∀ x ∈ l, 0 ≤ x ∧ x ≤ 255) (hn : l.length < 1099511627776) :
    Calls Tryd.prog 22 #[.pointer (some ⟨g, 0, none⟩)] W fun e w' => e = .returned (.int .i64 (bA l j)) ∧ RdAt w0 g l (j + 1) w' ∧ OneBut W w' g := by
  have HT := Lib.hid (rtake_ok w0 g l j 1 W hr (by omega) hn)
  have HB := Lib.hid hB
  have hx := bA_in hby j
  obtain ⟨x, hxe⟩ : ∃ x, x = bA l j := ⟨_, rfl⟩
  have HL : Hid ((l.drop j).take 1 = [x]) := by show _ = _; rw [hxe, bA_of hk, List.drop_eq_getElem_cons hk]; rfl
  rw [← hxe] at hx ⊢
  have e6 : IntKind.i64.wrap x = x := IntWalk.i64_in _ (by omega)
  clear hr hB hxe hby hk hn
  go_enter Tryd.func22, Tryd.ntmps22
  go_wp2_with fail
  refine HT.out.mono ?_
  rintro e w1 ⟨⟨A', c', rfl, hc', hC⟩, hr1, ho1⟩
  rw [HL.out] at hC
  obtain ⟨ad, rfl, x0⟩ := Kd.at_int hC 0 (by omega) (by decide)
  have x1 : w1.cell? ad = some (.int .u8 x) := ((ho1.below HB.out hg).cell (World.block_lt_of_cell? w0 _ x0)).trans x0
  have HR1 := Lib.hid hr1
  have HO1 := Lib.hid ho1
  clear hC x0 hr1 ho1
  go_wp2_with fail
  go_ret
  exact ⟨rfl, HR1.out, HO1.out⟩
set_option maxHeartbeats 1000000 in
set_option maxRecDepth 100000 in
theorem rbyte_no (w0 : World) (g : Nat) (l : List Int) (j : Nat) (W : World) (hr : RdAt w0 g l j W) (hk : l.length ≤ j) :
    Calls Tryd.prog 22 #[.pointer (some ⟨g, 0, none⟩)] W fun e w' => e = .panicked faultP ∧ w' = W := by
  have HT := Lib.hid (rtake_no w0 g l j 1 W hr (by omega))
  clear hr hk
  go_enter Tryd.func22, Tryd.ntmps22
  go_wp2_with fail
  refine HT.out.mono ?_
  rintro e w1 ⟨rfl, rfl⟩
  go_wp2_with fail
  simp [bodyPost]

set_option maxHeartbeats 2000000 in
set_option maxRecDepth 100000 in
theorem rshort_ok (w0 : World) (g : Nat) (l : List Int) (j : Nat) (W : World) (hr : RdAt w0 g l j W) (hB : Below w0.heap.size w0 W) (hg : w0.heap.size ≤ g) (hk : j + 2 ≤ l.length) (hby : ∀ x ∈ l, 0 ≤ x ∧ x ≤ 255) (hn : l.length < 1099511627776) :
    Calls Tryd.prog 25 #[.pointer (some ⟨g, 0, none⟩)] W fun e w' => e = .returned (.int .i64 (sA l j)) ∧ RdAt w0 g l (j + 2) w' ∧ OneBut W w' g := by
  have HT := Lib.hid (rtake_ok w0 g l j 2 W hr (by omega) hn)
  have HB := Lib.hid hB
  have hx := bA_in hby j
  have hy := bA_in hby (j + 1)
  obtain ⟨x, hxe⟩ : ∃ x, x = bA l j := ⟨_, rfl⟩
  obtain ⟨y, hye⟩ : ∃ y, y = bA l (j + 1) := ⟨_, rfl⟩
  have HL : Hid ((l.drop j).take 2 = [x, y]) := by show _ = _; rw [hxe, hye, bA_of (show j < l.length by omega), bA_of (show j + 1 < l.length by omega), List.drop_eq_getElem_cons (show j < l.length by omega), List.drop_eq_getElem_cons (show j + 1 < l.length by omega)]; rfl
  have HS : Hid (sA l j = x * 256 + y) := by show _ = _; rw [hxe, hye]; rfl
  rw [← hxe] at hx
  rw [← hye] at hy
  have e6 : IntKind.i64.wrap x = x := IntWalk.i64_in _ (by omega)
  have e7 : IntKind.i64.wrap y = y := IntWalk.i64_in _ (by omega)
  have e8 : bits .or .i64 (x * 256) y = x * 256 + y := or_join8 (by omega) (by omega) (by omega) (by omega)
  have e10 : IntKind.i64.wrap (x * 256) = x * 256 := IntWalk.i64_in _ (by omega)
  rw [HS.out]
  clear hr hB hxe hye hby hk hn
  go_enter Tryd.func25, Tryd.ntmps25
  go_wp2_with fail
  refine HT.out.mono ?_
  rintro e w1 ⟨⟨A', c', rfl, hc', hC⟩, hr1, ho1⟩
  rw [HL.out] at hC
  obtain ⟨ad, rfl, x0⟩ := Kd.at_int hC 0 (by omega) (by decide)
  obtain ⟨ad2, e2, x1⟩ := Kd.at_int hC 1 (by omega) (by decide)
  cases e2
  have u0 : w1.cell? ad = some (.int .u8 x) := ((ho1.below HB.out hg).cell (World.block_lt_of_cell? w0 _ x0)).trans x0
  have u1 : w1.cell? ⟨ad.block, ad.off + 1, none⟩ = some (.int .u8 y) := ((ho1.below HB.out hg).cell (World.block_lt_of_cell? w0 _ x1)).trans x1
  have HR1 := Lib.hid hr1
  have HO1 := Lib.hid ho1
  clear hC x0 x1 hr1 ho1
  go_wp2_with fail
  refine start_ (n := 11) (S := fun w' => w'.cell? ad = some (.int .u8 x) ∧ w'.cell? ⟨ad.block, ad.off + 1, none⟩ = some (.int .u8 y)) (ds := []) #[false, false, false, false, false, false, false, false, false, false, false] (by kernel_rfl) rfl rfl ⟨u0, u1⟩ (fun hHeld => ?_)
  refine pure_ (i := 0) (N := some 6) (v := ?_) (a' := ?_) #[true, false, false, false, false, false, false, false, false, false, false] rfl rfl (by kernel_rfl) (fun _ _ _ h => h) (Or.inl ⟨by rfl, ?_⟩) ?_ ?_
  rotate_left
  · intro w'
    go_simp
    with_reducible rfl
  rotate_left
  · simp only [Act.put, List.setIfInBounds_toArray, List.set_cons_zero, List.set_cons_succ, i64_w, i32_w]
    rfl
  refine pure_ (i := 1) (N := some 7) (v := ?_) (a' := ?_) #[true, true, false, false, false, false, false, false, false, false, false] rfl rfl (by kernel_rfl) (fun _ _ _ h => h) (Or.inl ⟨by rfl, ?_⟩) ?_ ?_
  rotate_left
  · intro w'
    go_simp
    with_reducible rfl
  rotate_left
  · simp only [Act.put, List.setIfInBounds_toArray, List.set_cons_zero, List.set_cons_succ, i64_w, i32_w]
    rfl
  refine pure_ (i := 5) (N := some 11) (v := ?_) (a' := ?_) #[true, true, false, false, false, true, false, false, false, false, false] rfl rfl (by kernel_rfl) (fun _ _ _ h => h) (Or.inl ⟨by rfl, ?_⟩) ?_ ?_
  rotate_left
  · intro w'
    go_simp
    with_reducible rfl
  rotate_left
  · simp only [Act.put, List.setIfInBounds_toArray, List.set_cons_zero, List.set_cons_succ, i64_w, i32_w]
    rfl
  refine pure_ (i := 6) (N := some 12) (v := ?_) (a' := ?_) #[true, true, false, false, false, true, true, false, false, false, false] rfl rfl (by kernel_rfl) (fun _ _ _ h => h) (Or.inl ⟨by rfl, ?_⟩) ?_ ?_
  rotate_left
  · intro w'
    go_simp
    with_reducible rfl
  rotate_left
  · simp only [Act.put, List.setIfInBounds_toArray, List.set_cons_zero, List.set_cons_succ, i64_w, i32_w]
    rfl
  refine take_ (i := 2) (N := some 8) (v := .int .u8 x) (a' := ?_) #[true, true, true, false, false, true, true, false, false, false, false] rfl rfl (by kernel_rfl) (fun _ _ _ h => h) (Or.inl ⟨by rfl, ?_⟩) hHeld ?_ ?_
  · rintro w' ⟨s0, s1⟩
    go_simp
    try (with_reducible rfl)
  rotate_left
  · simp only [Act.put, List.setIfInBounds_toArray, List.set_cons_zero, List.set_cons_succ, i64_w, i32_w]
    rfl
  refine pure_ (i := 3) (N := some 9) (v := .int .i64 x) (a' := ?_) #[true, true, true, true, false, true, true, false, false, false, false] rfl rfl (by kernel_rfl) (fun _ _ _ h => h) (Or.inl ⟨by rfl, ?_⟩) ?_ ?_
  · intro w'
    go_simp
    try (with_reducible rfl)
  rotate_left
  · simp only [Act.put, List.setIfInBounds_toArray, List.set_cons_zero, List.set_cons_succ, i64_w, i32_w]
    rfl
  refine pure_ (i := 4) (N := some 10) (v := .int .i64 (x * 256)) (a' := ?_) #[true, true, true, true, true, true, true, false, false, false, false] rfl rfl (by kernel_rfl) (fun _ _ _ h => h) (Or.inl ⟨by rfl, ?_⟩) ?_ ?_
  · intro w'
    go_simp
    try (with_reducible rfl)
  rotate_left
  · simp only [Act.put, List.setIfInBounds_toArray, List.set_cons_zero, List.set_cons_succ, i64_w, i32_w]
    rfl
  refine take_ (i := 7) (N := some 13) (v := .int .u8 y) (a' := ?_) #[true, true, true, true, true, true, true, true, false, false, false] rfl rfl (by kernel_rfl) (fun _ _ _ h => h) (Or.inl ⟨by rfl, ?_⟩) hHeld ?_ ?_
  · rintro w' ⟨s0, s1⟩
    go_simp
    try (with_reducible rfl)
  rotate_left
  · simp only [Act.put, List.setIfInBounds_toArray, List.set_cons_zero, List.set_cons_succ, i64_w, i32_w]
    rfl
  refine pure_ (i := 8) (N := some 14) (v := .int .i64 y) (a' := ?_) #[true, true, true, true, true, true, true, true, true, false, false] rfl rfl (by kernel_rfl) (fun _ _ _ h => h) (Or.inl ⟨by rfl, ?_⟩) ?_ ?_
  · intro w'
    go_simp
    try (with_reducible rfl)
  rotate_left
  · simp only [Act.put, List.setIfInBounds_toArray, List.set_cons_zero, List.set_cons_succ, i64_w, i32_w]
    rfl
  refine pure_ (i := 9) (N := some 15) (v := .int .i64 (x * 256 + y)) (a' := ?_) #[true, true, true, true, true, true, true, true, true, true, false] rfl rfl (by kernel_rfl) (fun _ _ _ h => h) (Or.inl ⟨by rfl, ?_⟩) ?_ ?_
  · intro w'
    go_simp
    try (with_reducible rfl)
  rotate_left
  · simp only [Act.put, List.setIfInBounds_toArray, List.set_cons_zero, List.set_cons_succ, i64_w, i32_w]
    rfl
  refine pure_ (i := 10) (N := some 2) (v := ?_) (a' := ?_) #[true, true, true, true, true, true, true, true, true, true, true] rfl rfl (by kernel_rfl) (fun _ _ _ h => h) (Or.inl ⟨by rfl, ?_⟩) ?_ ?_
  rotate_left
  · intro w'
    go_simp
    with_reducible rfl
  rotate_left
  · simp only [Act.put, List.setIfInBounds_toArray, List.set_cons_zero, List.set_cons_succ, i64_w, i32_w]
    rfl
  refine done_ (by kernel_rfl) ?_
  go_wp2_with fail
  go_ret
  exact ⟨rfl, HR1.out.move rfl, HO1.out.trans_ (OneBut.of_below (below_drew (Below.refl _ _)) g)⟩
set_option maxHeartbeats 1000000 in
set_option maxRecDepth 100000 in
theorem rshort_no (w0 : World) (g : Nat) (l : List Int) (j : Nat) (W : World) (hr : RdAt w0 g l j W) (hk : l.length < j + 2) :
    Calls Tryd.prog 25 #[.pointer (some ⟨g, 0, none⟩)] W fun e w' => e = .panicked faultP ∧ w' = W := by
  have HT := Lib.hid (rtake_no w0 g l j 2 W hr (by omega))
  clear hr hk
  go_enter Tryd.func25, Tryd.ntmps25
  go_wp2_with fail
  refine HT.out.mono ?_
  rintro e w1 ⟨rfl, rfl⟩
  go_wp2_with fail
  simp [bodyPost]

set_option maxHeartbeats 2000000 in
set_option maxRecDepth 100000 in
theorem rlong_ok (w0 : World) (g : Nat) (l : List Int) (j : Nat) (W : World) (hr : RdAt w0 g l j W) (hB : Below w0.heap.size w0 W) (hg : w0.heap.size ≤ g) (hk : j + 4 ≤ l.length) (hby : ∀ x ∈ l, 0 ≤ x ∧ x ≤ 255) (hn : l.length < 1099511627776) :
    Calls Tryd.prog 24 #[.pointer (some ⟨g, 0, none⟩)] W fun e w' => e = .returned (.int .u32 (lA l j)) ∧ RdAt w0 g l (j + 4) w' ∧ OneBut W w' g := by
  have HT := Lib.hid (rshort_ok w0 g l j W hr hB hg (by omega) hby hn)
  have HT2 := Lib.hid (fun W1 (h1 : RdAt w0 g l (j + 2) W1) (h2 : Below w0.heap.size w0 W1) => rshort_ok w0 g l (j + 2) W1 h1 h2 hg (by omega) hby hn)
  have HB := Lib.hid hB
  have hx := sA_in hby j
  have hy := sA_in hby (j + 2)
  obtain ⟨x, hxe⟩ : ∃ x, x = sA l j := ⟨_, rfl⟩
  obtain ⟨y, hye⟩ : ∃ y, y = sA l (j + 2) := ⟨_, rfl⟩
  have HS : Hid (lA l j = x * 65536 + y) := by show _ = _; rw [hxe, hye]; rfl
  rw [← hxe] at hx HT
  rw [← hye] at hy HT2
  have e8 : bits .or .i64 (x * 65536) y = x * 65536 + y := or_join16 (by omega) (by omega) (by omega) (by omega)
  have e9 : IntKind.u32.wrap (x * 65536 + y) = x * 65536 + y := IntWalk.u32_in _ (by omega)
  rw [HS.out]
  clear hr hB hxe hye hby hk hn
  go_enter Tryd.func24, Tryd.ntmps24
  go_wp2_with fail
  refine HT.out.mono ?_
  rintro e w1 ⟨rfl, hr1, ho1⟩
  have HR1 := Lib.hid hr1
  have HO1 := Lib.hid ho1
  clear hr1 ho1
  go_wp2_with fail
  refine (HT2.out w1 HR1.out (HO1.out.below HB.out hg)).mono ?_
  rintro e w2 ⟨rfl, hr2, ho2⟩
  have HR2 := Lib.hid hr2
  have HO2 := Lib.hid ho2
  clear hr2 ho2
  go_wp2_with fail
  go_ret
  exact ⟨rfl, HR2.out, HO1.out.trans_ HO2.out⟩
set_option maxHeartbeats 1000000 in
set_option maxRecDepth 100000 in
theorem rlong_no (w0 : World) (g : Nat) (l : List Int) (j : Nat) (W : World) (hr : RdAt w0 g l j W) (hB : Below w0.heap.size w0 W) (hg : w0.heap.size ≤ g) (hk : l.length < j + 4) (hby : ∀ x ∈ l, 0 ≤ x ∧ x ≤ 255) (hn : l.length < 1099511627776) :
    Calls Tryd.prog 24 #[.pointer (some ⟨g, 0, none⟩)] W fun e w' => e = .panicked faultP ∧ OneBut W w' g := by
  by_cases h2 : l.length < j + 2
  · have HT := Lib.hid (rshort_no w0 g l j W hr h2)
    clear hr hk hB hby hn h2
    go_enter Tryd.func24, Tryd.ntmps24
    go_wp2_with fail
    refine HT.out.mono ?_
    rintro e w1 ⟨rfl, rfl⟩
    go_wp2_with fail
    simp [bodyPost]
    exact OneBut.refl_ _ _
  · have HT := Lib.hid (rshort_ok w0 g l j W hr hB hg (by omega) hby hn)
    have HT2 := Lib.hid (fun W1 (h1 : RdAt w0 g l (j + 2) W1) => rshort_no w0 g l (j + 2) W1 h1 (by omega))
    have HX := Lib.hid (sA_in hby j)
    clear hr hk hB hby hn h2
    have hx := HX.out
    go_enter Tryd.func24, Tryd.ntmps24
    go_wp2_with fail
    refine HT.out.mono ?_
    rintro e w1 ⟨rfl, hr1, ho1⟩
    have HR1 := Lib.hid hr1
    have HO1 := Lib.hid ho1
    clear hr1 ho1
    go_wp2_with fail
    refine (HT2.out w1 HR1.out).mono ?_
    rintro e w2 ⟨rfl, rfl⟩
    go_wp2_with fail
    simp [bodyPost]
    exact HO1.out
end Go.Proofs.YtmbfdmceameghaaDoor
end

section
namespace Go.Proofs.YtmbfdmceameghaaDoor
open Go.RowKit Go.Proofs.YtmbfdmceameghaaDoor.Pr Go.Proofs.YtmbfdmceameghaaDoorW.PrintWords Go.Proofs.YtmbfdmceameghaaDoorW.PrintLast Go.Proofs.YtmbfdmceameghaaDoorW.PrintMore
attribute [local go_sem] max2_int min2_int max_two min_two max_three min_three max_four min_four
set_option linter.unusedVariables false
set_option linter.unusedSimpArgs false

abbrev pkNilC : Array Value := #[.int .i64 0, .int .u32 0, .int .i64 0, .int .i64 0, .int .u32 0, .int .u32 0, .int .u32 0, .int .u32 0, .slice none 0 0, .slice none 0 0]
theorem pk10 {W : World} {bp : Nat} {t : TypeId} {o0 o1 o2 o3 o4 o5 o6 o7 o8 o9 : Value} (h : W.heap[bp]? = some (.cells #[o0, o1, o2, o3, o4, o5, o6, o7, o8, o9] t (0, 0))) (v0 v1 v2 v3 v4 v5 v6 v7 v8 v9 : Value) :
    ((((((((((W.setCell ⟨bp, 0, none⟩ v0).setCell ⟨bp, 1, none⟩ v1).setCell ⟨bp, 2, none⟩ v2).setCell ⟨bp, 3, none⟩ v3).setCell ⟨bp, 4, none⟩ v4).setCell ⟨bp, 5, none⟩ v5).setCell ⟨bp, 6, none⟩ v6).setCell ⟨bp, 7, none⟩ v7).setCell ⟨bp, 8, none⟩ v8).setCell ⟨bp, 9, none⟩ v9).heap[bp]? = some (.cells #[v0, v1, v2, v3, v4, v5, v6, v7, v8, v9] t (0, 0)) := by
  have h0 : (W.setCell ⟨bp, 0, none⟩ v0).heap[bp]? = some (.cells #[v0, o1, o2, o3, o4, o5, o6, o7, o8, o9] t (0, 0)) := blk_put h 0 v0 rfl
  have h1 : ((W.setCell ⟨bp, 0, none⟩ v0).setCell ⟨bp, 1, none⟩ v1).heap[bp]? = some (.cells #[v0, v1, o2, o3, o4, o5, o6, o7, o8, o9] t (0, 0)) := blk_put h0 1 v1 rfl
  have h2 : (((W.setCell ⟨bp, 0, none⟩ v0).setCell ⟨bp, 1, none⟩ v1).setCell ⟨bp, 2, none⟩ v2).heap[bp]? = some (.cells #[v0, v1, v2, o3, o4, o5, o6, o7, o8, o9] t (0, 0)) := blk_put h1 2 v2 rfl
  have h3 : ((((W.setCell ⟨bp, 0, none⟩ v0).setCell ⟨bp, 1, none⟩ v1).setCell ⟨bp, 2, none⟩ v2).setCell ⟨bp, 3, none⟩ v3).heap[bp]? = some (.cells #[v0, v1, v2, v3, o4, o5, o6, o7, o8, o9] t (0, 0)) := blk_put h2 3 v3 rfl
  have h4 : (((((W.setCell ⟨bp, 0, none⟩ v0).setCell ⟨bp, 1, none⟩ v1).setCell ⟨bp, 2, none⟩ v2).setCell ⟨bp, 3, none⟩ v3).setCell ⟨bp, 4, none⟩ v4).heap[bp]? = some (.cells #[v0, v1, v2, v3, v4, o5, o6, o7, o8, o9] t (0, 0)) := blk_put h3 4 v4 rfl
  have h5 : ((((((W.setCell ⟨bp, 0, none⟩ v0).setCell ⟨bp, 1, none⟩ v1).setCell ⟨bp, 2, none⟩ v2).setCell ⟨bp, 3, none⟩ v3).setCell ⟨bp, 4, none⟩ v4).setCell ⟨bp, 5, none⟩ v5).heap[bp]? = some (.cells #[v0, v1, v2, v3, v4, v5, o6, o7, o8, o9] t (0, 0)) := blk_put h4 5 v5 rfl
  have h6 : (((((((W.setCell ⟨bp, 0, none⟩ v0).setCell ⟨bp, 1, none⟩ v1).setCell ⟨bp, 2, none⟩ v2).setCell ⟨bp, 3, none⟩ v3).setCell ⟨bp, 4, none⟩ v4).setCell ⟨bp, 5, none⟩ v5).setCell ⟨bp, 6, none⟩ v6).heap[bp]? = some (.cells #[v0, v1, v2, v3, v4, v5, v6, o7, o8, o9] t (0, 0)) := blk_put h5 6 v6 rfl
  have h7 : ((((((((W.setCell ⟨bp, 0, none⟩ v0).setCell ⟨bp, 1, none⟩ v1).setCell ⟨bp, 2, none⟩ v2).setCell ⟨bp, 3, none⟩ v3).setCell ⟨bp, 4, none⟩ v4).setCell ⟨bp, 5, none⟩ v5).setCell ⟨bp, 6, none⟩ v6).setCell ⟨bp, 7, none⟩ v7).heap[bp]? = some (.cells #[v0, v1, v2, v3, v4, v5, v6, v7, o8, o9] t (0, 0)) := blk_put h6 7 v7 rfl
  have h8 : (((((((((W.setCell ⟨bp, 0, none⟩ v0).setCell ⟨bp, 1, none⟩ v1).setCell ⟨bp, 2, none⟩ v2).setCell ⟨bp, 3, none⟩ v3).setCell ⟨bp, 4, none⟩ v4).setCell ⟨bp, 5, none⟩ v5).setCell ⟨bp, 6, none⟩ v6).setCell ⟨bp, 7, none⟩ v7).setCell ⟨bp, 8, none⟩ v8).heap[bp]? = some (.cells #[v0, v1, v2, v3, v4, v5, v6, v7, v8, o9] t (0, 0)) := blk_put h7 8 v8 rfl
  have h9 : ((((((((((W.setCell ⟨bp, 0, none⟩ v0).setCell ⟨bp, 1, none⟩ v1).setCell ⟨bp, 2, none⟩ v2).setCell ⟨bp, 3, none⟩ v3).setCell ⟨bp, 4, none⟩ v4).setCell ⟨bp, 5, none⟩ v5).setCell ⟨bp, 6, none⟩ v6).setCell ⟨bp, 7, none⟩ v7).setCell ⟨bp, 8, none⟩ v8).setCell ⟨bp, 9, none⟩ v9).heap[bp]? = some (.cells #[v0, v1, v2, v3, v4, v5, v6, v7, v8, v9] t (0, 0)) := blk_put h8 9 v9 rfl
  exact h9
theorem pk10_far {W : World} {bp k : Nat} (hk : k ≠ bp) (v0 v1 v2 v3 v4 v5 v6 v7 v8 v9 : Value) : ((((((((((W.setCell ⟨bp, 0, none⟩ v0).setCell ⟨bp, 1, none⟩ v1).setCell ⟨bp, 2, none⟩ v2).setCell ⟨bp, 3, none⟩ v3).setCell ⟨bp, 4, none⟩ v4).setCell ⟨bp, 5, none⟩ v5).setCell ⟨bp, 6, none⟩ v6).setCell ⟨bp, 7, none⟩ v7).setCell ⟨bp, 8, none⟩ v8).setCell ⟨bp, 9, none⟩ v9).heap[k]? = W.heap[k]? := by
  simp only [Below.heap_setCell _ _ _ _ (show k ≠ (⟨bp, _, none⟩ : Addr).block from hk)]
theorem pk10_below {w W : World} {bp : Nat} (hB : Below w.heap.size w W) (hg : w.heap.size ≤ bp) (v0 v1 v2 v3 v4 v5 v6 v7 v8 v9 : Value) : Below w.heap.size w ((((((((((W.setCell ⟨bp, 0, none⟩ v0).setCell ⟨bp, 1, none⟩ v1).setCell ⟨bp, 2, none⟩ v2).setCell ⟨bp, 3, none⟩ v3).setCell ⟨bp, 4, none⟩ v4).setCell ⟨bp, 5, none⟩ v5).setCell ⟨bp, 6, none⟩ v6).setCell ⟨bp, 7, none⟩ v7).setCell ⟨bp, 8, none⟩ v8).setCell ⟨bp, 9, none⟩ v9) :=
  below_set (below_set (below_set (below_set (below_set (below_set (below_set (below_set (below_set (below_set hB hg) hg) hg) hg) hg) hg) hg) hg) hg) hg
set_option maxRecDepth 100000 in
set_option maxHeartbeats 4000000 in
/-- The deferred closure, in a frame that panics with a fault. -/
theorem catch_fault (bp bf : Nat) {o0 o1 o2 o3 o4 o5 o6 o7 o8 o9 : Value} (b : Bool) (older : List PanicEntry) (w : World) (hl : w.heap[bp]? = some (.cells #[o0, o1, o2, o3, o4, o5, o6, o7, o8, o9] 28 (0, 0))) (hf : Boxed w bf 4 (.bool b)) (hne : bf ≠ bp) :
    CallsD Tryd.prog 21 #[.pointer (some ⟨bp, 0, none⟩), .pointer (some ⟨bf, 0, none⟩)] (.panicking ({ v := .iface 52 (.agg #[]), recovered := false } :: older)) w fun e u' w' =>
      e = .returned (.tuple #[]) ∧ u' = .panicking ({ v := .iface 52 (.agg #[]), recovered := true } :: older) ∧ w' = (((((((((((w.alloc (.cells #[] 52)).setCell ⟨bp, 0, none⟩ (.int .i64 0)).setCell ⟨bp, 1, none⟩ (.int .u32 0)).setCell ⟨bp, 2, none⟩ (.int .i64 0)).setCell ⟨bp, 3, none⟩ (.int .i64 0)).setCell ⟨bp, 4, none⟩ (.int .u32 0)).setCell ⟨bp, 5, none⟩ (.int .u32 0)).setCell ⟨bp, 6, none⟩ (.int .u32 0)).setCell ⟨bp, 7, none⟩ (.int .u32 0)).setCell ⟨bp, 8, none⟩ (.slice none 0 0)).setCell ⟨bp, 9, none⟩ (.slice none 0 0)).setCell ⟨bf, 0, none⟩ (.bool false) := by
  have hl1 : (w.alloc (.cells #[] 52)).heap[bp]? = _ := ((below_alloc (Below.refl w.heap.size w) (.cells #[] 52)).block bp (blk_lt hl)).trans hl
  have hf1 : Boxed (w.alloc (.cells #[] 52)) bf 4 (.bool b) := hf.alloc _
  obtain ⟨W, hW⟩ : ∃ W, w.alloc (.cells #[] 52) = W := ⟨_, rfl⟩
  rw [hW] at hl1 hf1 ⊢
  have u0 := (blk_cell hl1 0).trans rfl
  have f0 := blk_frozen hl1 0
  have u1 := (blk_cell hl1 1).trans rfl
  have f1 := blk_frozen hl1 1
  have u2 := (blk_cell hl1 2).trans rfl
  have f2 := blk_frozen hl1 2
  have u3 := (blk_cell hl1 3).trans rfl
  have f3 := blk_frozen hl1 3
  have u4 := (blk_cell hl1 4).trans rfl
  have f4 := blk_frozen hl1 4
  have u5 := (blk_cell hl1 5).trans rfl
  have f5 := blk_frozen hl1 5
  have u6 := (blk_cell hl1 6).trans rfl
  have f6 := blk_frozen hl1 6
  have u7 := (blk_cell hl1 7).trans rfl
  have f7 := blk_frozen hl1 7
  have u8 := (blk_cell hl1 8).trans rfl
  have f8 := blk_frozen hl1 8
  have u9 := (blk_cell hl1 9).trans rfl
  have f9 := blk_frozen hl1 9
  have hfz : Boxed ((((((((((W.setCell ⟨bp, 0, none⟩ (.int .i64 0)).setCell ⟨bp, 1, none⟩ (.int .u32 0)).setCell ⟨bp, 2, none⟩ (.int .i64 0)).setCell ⟨bp, 3, none⟩ (.int .i64 0)).setCell ⟨bp, 4, none⟩ (.int .u32 0)).setCell ⟨bp, 5, none⟩ (.int .u32 0)).setCell ⟨bp, 6, none⟩ (.int .u32 0)).setCell ⟨bp, 7, none⟩ (.int .u32 0)).setCell ⟨bp, 8, none⟩ (.slice none 0 0)).setCell ⟨bp, 9, none⟩ (.slice none 0 0)) bf 4 (.bool b) := (pk10_far hne (.int .i64 0) (.int .u32 0) (.int .i64 0) (.int .i64 0) (.int .u32 0) (.int .u32 0) (.int .u32 0) (.int .u32 0) (.slice none 0 0) (.slice none 0 0)).trans hf1
  have y3 := hfz.cell
  have z3 := hfz.frozen
  clear hfz hf1 hl1 hl hf
  have hta : ∀ w, (Instr.typeAssert (.iface 52 (.agg #[])) 20 52 true).run Tryd.prog w = .ok (.tuple #[.agg #[], .bool true]) w := fun w => by kernel_rfl
  refine callsD_of_wpS Tryd.func21 rfl fun c₀ cs hu => ?_
  apply wpS_seq
  apply wpS_region
  simp [wpOpsS, go_sem, recoverD, hu, Tryd.ntmps21, Exit.thenS, hta, Act.put, Array.replicate]
  clear hta
  rw [hW]
  apply wpS_seq
  apply wpS_region
  simp [wpOpsS, go_sem, Exit.thenS, Act.put]
  refine wpS_cond (t := true) (by simp [Act.eval, Array.replicate]) ?_
  simp only [if_true]
  apply wpS_region
  simp [wpOpsS, go_sem, u0, f0, u1, f1, u2, f2, u3, f3, u4, f4, u5, f5, u6, f6, u7, f7, u8, f8, u9, f9, y3, z3, bodyPostS, results, Tryd.results21, hu]
set_option maxRecDepth 100000 in
theorem catch_nofault (bp bf : Nat) (w : World) :
    CallsD Tryd.prog 21 #[.pointer (some ⟨bp, 0, none⟩), .pointer (some ⟨bf, 0, none⟩)] .returning w fun e u' w' => e = .returned (.tuple #[]) ∧ u' = .returning ∧ w' = w.alloc (.cells #[] 52) := by
  have hta : ∀ w, (Instr.typeAssert .nilIface 20 52 true).run Tryd.prog w = .ok (.tuple #[.agg #[], .bool false]) w := fun w => by kernel_rfl
  refine callsD_of_wpS Tryd.func21 rfl fun c₀ cs hu => ?_
  apply wpS_seq
  apply wpS_region
  simp [wpOpsS, go_sem, recoverD, hu, Tryd.ntmps21, Exit.thenS, hta, Act.put, Array.replicate]
  clear hta
  apply wpS_seq
  apply wpS_region
  simp [wpOpsS, go_sem, Exit.thenS, Act.put]
  refine wpS_cond (t := false) (by simp [Act.eval, Array.replicate]) ?_
  simp only [Bool.false_eq_true, if_false]
  refine wpS_of_wp (wp_skip ?_)
  cases c₀
  simp_all [bodyPostS, results, Tryd.results21]
theorem prd_leaves {tmps : Array Value} {R : Ending → World → Prop} {W : World} {bp bf : Nat} {a0 a1 a2 a3 a4 a5 a6 a7 : Int} {A8 A9 : Option Addr} {n8 c8 n9 c9 : Nat} {b : Bool} (h2 : tmps[2]? = some (.pointer (some ⟨bp, 0, none⟩))) (h3 : tmps[3]? = some (.pointer (some ⟨bf, 0, none⟩)))
    (hl : W.heap[bp]? = some (.cells #[.int .i64 a0, .int .u32 a1, .int .i64 a2, .int .i64 a3, .int .u32 a4, .int .u32 a5, .int .u32 a6, .int .u32 a7, .slice A8 n8 c8, .slice A9 n9 c9] 28 (0, 0))) (hf : Boxed W bf 4 (.bool b)) (h : R (.returned (.tuple #[.agg #[.int .i64 a0, .int .u32 a1, .int .i64 a2, .int .i64 a3, .int .u32 a4, .int .u32 a5, .int .u32 a6, .int .u32 a7, .slice A8 n8 c8, .slice A9 n9 c9], .bool b])) W) : Leaves Tryd.prog Tryd.f11 tmps R [] .returning W := by
  refine ⟨.tuple #[.agg #[.int .i64 a0, .int .u32 a1, .int .i64 a2, .int .i64 a3, .int .u32 a4, .int .u32 a5, .int .u32 a6, .int .u32 a7, .slice A8 n8 c8, .slice A9 n9 c9], .bool b], ?_, h⟩
  have y0 := (blk_cell hl 0).trans rfl
  have y1 := (blk_cell hl 1).trans rfl
  have y2 := (blk_cell hl 2).trans rfl
  have y3 := (blk_cell hl 3).trans rfl
  have y4 := (blk_cell hl 4).trans rfl
  have y5 := (blk_cell hl 5).trans rfl
  have y6 := (blk_cell hl 6).trans rfl
  have y7 := (blk_cell hl 7).trans rfl
  have y8 := (blk_cell hl 8).trans rfl
  have y9 := (blk_cell hl 9).trans rfl
  have yf := hf.cell
  simp [results, Tryd.results11, go_sem, h2, h3, yf, y0, y1, y2, y3, y4, y5, y6, y7, y8, y9]
theorem prd_ret {tmps : Array Value} {R : Ending → World → Prop} {W : World} {bp bf : Nat} {a0 a1 a2 a3 a4 a5 a6 a7 : Int} {A8 A9 : Option Addr} {n8 c8 n9 c9 : Nat} {b : Bool} (h2 : tmps[2]? = some (.pointer (some ⟨bp, 0, none⟩))) (h3 : tmps[3]? = some (.pointer (some ⟨bf, 0, none⟩)))
    (hl : W.heap[bp]? = some (.cells #[.int .i64 a0, .int .u32 a1, .int .i64 a2, .int .i64 a3, .int .u32 a4, .int .u32 a5, .int .u32 a6, .int .u32 a7, .slice A8 n8 c8, .slice A9 n9 c9] 28 (0, 0))) (hf : Boxed W bf 4 (.bool b)) (h : R (.returned (.tuple #[.agg #[.int .i64 a0, .int .u32 a1, .int .i64 a2, .int .i64 a3, .int .u32 a4, .int .u32 a5, .int .u32 a6, .int .u32 a7, .slice A8 n8 c8, .slice A9 n9 c9], .bool b])) (W.alloc (.cells #[] 52))) :
    bodyPostD Tryd.prog Tryd.f11 R .ret { tmps := tmps, defers := [{ target := .fn (.func 21) #[.pointer (some ⟨bp, 0, none⟩), .pointer (some ⟨bf, 0, none⟩)], args := #[] }] } W := by
  show Leaves _ _ _ _ _ _ _
  refine leaves_cons (f := 21) (args := #[.pointer (some ⟨bp, 0, none⟩), .pointer (some ⟨bf, 0, none⟩)]) (by simp) (by simp [go_sem]) ?_
  refine (catch_nofault bp bf _).mono ?_
  rintro e u' w'' ⟨rfl, rfl, rfl⟩
  exact prd_leaves h2 h3 (((below_alloc (Below.refl W.heap.size W) _).block bp (blk_lt hl)).trans hl) (hf.alloc _) h
/-- What stands between two calls. -/
structure PrSt (w : World) (bp bf g : Nat) (l : List Int) (cs : Array Value) (j : Nat) (W : World) : Prop where
  pk : W.heap[bp]? = some (.cells cs 28 (0, 0))
  fl : Boxed W bf 4 (.bool false)
  rd : RdAt w g l j W
  be : Below w.heap.size w W
  ord : w.heap.size ≤ bp ∧ bp < bf ∧ bf < g
theorem PrSt.one {w W W' : World} {bp bf g j j' : Nat} {l : List Int} {cs : Array Value} (h : PrSt w bp bf g l cs j W) (ho : OneBut W W' g) (hr : RdAt w g l j' W') : PrSt w bp bf g l cs j' W' := by
  have h1 := h.ord
  exact ⟨(ho.block bp (blk_lt h.pk) (by omega)).trans h.pk, (ho.block bf h.fl.lt (by omega)).trans h.fl, hr, ho.below h.be (by omega), h.ord⟩
theorem PrSt.grow {w W W' : World} {bp bf g j : Nat} {l : List Int} {cs : Array Value} (h : PrSt w bp bf g l cs j W) (hb : Below W.heap.size W W') : PrSt w bp bf g l cs j W' :=
  ⟨(hb.block bp (blk_lt h.pk)).trans h.pk, (hb.block bf h.fl.lt).trans h.fl, h.rd.move (hb.block g h.rd.lt), h.be.trans (hb.mono h.be.size), h.ord⟩
theorem PrSt.put {w W : World} {bp bf g j : Nat} {l : List Int} {cs cs' : Array Value} (h : PrSt w bp bf g l cs j W) (i : Nat) (v : Value) (e : cs.setIfInBounds i v = cs') : PrSt w bp bf g l cs' j (W.setCell ⟨bp, i, none⟩ v) := by
  have h1 := h.ord
  have hm : ∀ k, k ≠ bp → (W.setCell ⟨bp, i, none⟩ v).heap[k]? = W.heap[k]? := fun k hk => Below.heap_setCell _ _ _ k hk
  exact ⟨by rw [← e]; exact blk_set h.pk i v, (hm bf (by omega)).trans h.fl, h.rd.move (hm g (by omega)), below_set h.be (by omega), h.ord⟩
theorem prd_panic {w W : World} {bp bf g : Nat} {o0 o1 o2 o3 o4 o5 o6 o7 o8 o9 : Value} {tmps : Array Value} {R : Ending → World → Prop} (hpk : W.heap[bp]? = some (.cells #[o0, o1, o2, o3, o4, o5, o6, o7, o8, o9] 28 (0, 0))) (hfl : Boxed W bf 4 (.bool false)) (hbe : Below w.heap.size w W) (h1 : w.heap.size ≤ bp ∧ bp < bf ∧ bf < g) (h2 : tmps[2]? = some (.pointer (some ⟨bp, 0, none⟩))) (h3 : tmps[3]? = some (.pointer (some ⟨bf, 0, none⟩)))
    (hR : ∀ W', Below w.heap.size w W' → R (.returned (.tuple #[.agg pkNilC, .bool false])) W') :
    bodyPostD Tryd.prog Tryd.f11 R (.panic faultP) { tmps := tmps, defers := [{ target := .fn (.func 21) #[.pointer (some ⟨bp, 0, none⟩), .pointer (some ⟨bf, 0, none⟩)], args := #[] }] } W := by
  show Leaves _ _ _ _ _ _ _
  refine leaves_cons (f := 21) (args := #[.pointer (some ⟨bp, 0, none⟩), .pointer (some ⟨bf, 0, none⟩)]) (by simp) (by simp [go_sem]) ?_
  refine (catch_fault bp bf false [] _ hpk hfl (by omega)).mono ?_
  rintro e u' w'' ⟨rfl, rfl, rfl⟩
  show Leaves _ _ _ _ [] .returning _
  have hl1 : (W.alloc (.cells #[] 52)).heap[bp]? = _ := ((below_alloc (Below.refl W.heap.size W) (.cells #[] 52)).block bp (blk_lt hpk)).trans hpk
  have hf1 : Boxed (W.alloc (.cells #[] 52)) bf 4 (.bool false) := hfl.alloc _
  have hb1 : Below w.heap.size w (W.alloc (.cells #[] 52)) := below_alloc hbe _
  have hp2 := pk10 hl1 (.int .i64 0) (.int .u32 0) (.int .i64 0) (.int .i64 0) (.int .u32 0) (.int .u32 0) (.int .u32 0) (.int .u32 0) (.slice none 0 0) (.slice none 0 0)
  have hf2 : Boxed (((((((((((W.alloc (.cells #[] 52)).setCell ⟨bp, 0, none⟩ (.int .i64 0)).setCell ⟨bp, 1, none⟩ (.int .u32 0)).setCell ⟨bp, 2, none⟩ (.int .i64 0)).setCell ⟨bp, 3, none⟩ (.int .i64 0)).setCell ⟨bp, 4, none⟩ (.int .u32 0)).setCell ⟨bp, 5, none⟩ (.int .u32 0)).setCell ⟨bp, 6, none⟩ (.int .u32 0)).setCell ⟨bp, 7, none⟩ (.int .u32 0)).setCell ⟨bp, 8, none⟩ (.slice none 0 0)).setCell ⟨bp, 9, none⟩ (.slice none 0 0)) bf 4 (.bool false) := (pk10_far (by omega) (.int .i64 0) (.int .u32 0) (.int .i64 0) (.int .i64 0) (.int .u32 0) (.int .u32 0) (.int .u32 0) (.int .u32 0) (.slice none 0 0) (.slice none 0 0)).trans hf1
  refine prd_leaves h2 h3 ((Below.heap_setCell _ _ _ bp (show bp ≠ bf by omega)).trans hp2) (hf2.set _) (hR _ (below_set (pk10_below hb1 h1.1 _ _ _ _ _ _ _ _ _ _) (by omega)))
theorem idxp (a b c d : Addr) (i : Nat) (hi : i < 4) (W : World) : (Instr.index 59 (.agg #[.pointer (some a), .pointer (some b), .pointer (some c), .pointer (some d)]) (.int .i64 (i : Int))).run Tryd.prog W = .ok (.pointer (some (([a, b, c, d] : List Addr).getD i a))) W := by
  have hu : Tryd.prog.underlying 59 = some (.array 4 58) := by kernel_rfl
  have hs : (Tryd.prog.info? 58).map (fun i => (i.size, i.zero)) = some (1, some (.pointer none)) := by kernel_rfl
  obtain ⟨i0, h0, h1⟩ := Option.map_eq_some_iff.1 hs
  simp only [Prod.mk.injEq] at h1
  obtain rfl | rfl | rfl | rfl : i = 0 ∨ i = 1 ∨ i = 2 ∨ i = 3 := by omega
  all_goals simp [Instr.index, asIntOf, run_underlying hu, sizeOf, part, typeInfo, h0, h1.1, h1.2]
/-! ### what is read -/
def rdOk (l : List Int) : Prop := 240 ≤ l.length ∧ bA l 1 = 1 ∧ bA l 2 ≤ 16 ∧ bA l 3 = 0 ∧ (∀ x ∈ (l.drop (28 + (bA l 2).toNat)).take (208 - (bA l 2).toNat), x = 0) ∧ lA l 236 = 1669485411 ∧ (odR (l.drop 240)).2 = 0
instance (l : List Int) : Decidable (rdOk l) := by unfold rdOk; infer_instance
abbrev PrT := Int × Int × Int × Int × Int × Int × Int × Int × List Int × List OptP × Bool
def rdP (l : List Int) : PrT := if rdOk l then (bA l 0, lA l 4, sA l 8, sA l 10, lA l 12, lA l 16, lA l 20, lA l 24, (l.drop 28).take (bA l 2).toNat, (odR (l.drop 240)).1, true) else (0, 0, 0, 0, 0, 0, 0, 0, [], [], false)
def packet_read.f (l0 : List Int) : Option PrT := if (∀ x ∈ l0, 0 ≤ x ∧ x ≤ 255) ∧ l0.length < 1099511627776 then some (rdP l0) else none
def adC (l0 : List Int) : Nat → Array Value
  | 0 => #[.int .i64 (bA l0 0), .int .u32 (lA l0 4), .int .i64 (sA l0 8), .int .i64 (sA l0 10), .int .u32 0, .int .u32 0, .int .u32 0, .int .u32 0, .slice none 0 0, .slice none 0 0]
  | 1 => #[.int .i64 (bA l0 0), .int .u32 (lA l0 4), .int .i64 (sA l0 8), .int .i64 (sA l0 10), .int .u32 (lA l0 12), .int .u32 0, .int .u32 0, .int .u32 0, .slice none 0 0, .slice none 0 0]
  | 2 => #[.int .i64 (bA l0 0), .int .u32 (lA l0 4), .int .i64 (sA l0 8), .int .i64 (sA l0 10), .int .u32 (lA l0 12), .int .u32 (lA l0 16), .int .u32 0, .int .u32 0, .slice none 0 0, .slice none 0 0]
  | 3 => #[.int .i64 (bA l0 0), .int .u32 (lA l0 4), .int .i64 (sA l0 8), .int .i64 (sA l0 10), .int .u32 (lA l0 12), .int .u32 (lA l0 16), .int .u32 (lA l0 20), .int .u32 0, .slice none 0 0, .slice none 0 0]
  | _ => #[.int .i64 (bA l0 0), .int .u32 (lA l0 4), .int .i64 (sA l0 8), .int .i64 (sA l0 10), .int .u32 (lA l0 12), .int .u32 (lA l0 16), .int .u32 (lA l0 20), .int .u32 (lA l0 24), .slice none 0 0, .slice none 0 0]
set_option maxHeartbeats 8000000 in
set_option maxRecDepth 100000 in
theorem packet_read.calls (A0 : Option Addr) (c0 : Nat) (l0 : List Int) (r1 r2 r3 r4 r5 r6 r7 r8 : Int) (r9 : List Int) (r10 : List OptP) (r11 : Bool) (w : World) (hr0 : Kd.C (Kd.int .u8) w A0 l0.length l0) (hc0 : l0.length ≤ c0) (h : packet_read.f l0 = some (r1, r2, r3, r4, r5, r6, r7, r8, r9, r10, r11)) :
    Calls Tryd.prog 11 #[.slice A0 l0.length c0] w fun e w' => ∃ v8_ v9_ : Value, e = .returned (.tuple #[.agg #[.int .i64 r1, .int .u32 r2, .int .i64 r3, .int .i64 r4, .int .u32 r5, .int .u32 r6, .int .u32 r7, .int .u32 r8, v8_, v9_], .bool r11]) ∧ Kd.R (Kd.int .u8) 5 w' w.heap.size (fun _ => True) v8_ r9 ∧ Kd.S k39 39 w' w.heap.size (fun k_ => some k_ ≠ (v8_ : Value).ownBlock) v9_ r10 ∧ Below w.heap.size w w' := by
  unfold packet_read.f at h
  split at h
  case isFalse => cases h
  rename_i hcond
  obtain ⟨hby, hlen⟩ := hcond
  have h := Option.some.inj h
  have hmf : ∀ (fn : Fn) (first cap : Array Value) (w : World), (Instr.makeFunc fn first cap).run Tryd.prog w = .ok (.func fn first cap) w := fun _ _ _ _ => rfl
  have HPAN : Hid (¬ rdOk l0 → ∀ (e : Ending) (w' : World), e = .returned (.tuple #[.agg pkNilC, .bool false]) ∧ Below w.heap.size w w' → ∃ v8_ v9_ : Value, e = .returned (.tuple #[.agg #[.int .i64 r1, .int .u32 r2, .int .i64 r3, .int .i64 r4, .int .u32 r5, .int .u32 r6, .int .u32 r7, .int .u32 r8, v8_, v9_], .bool r11]) ∧ Kd.R (Kd.int .u8) 5 w' w.heap.size (fun _ => True) v8_ r9 ∧ Kd.S k39 39 w' w.heap.size (fun k_ => some k_ ≠ (v8_ : Value).ownBlock) v9_ r10 ∧ Below w.heap.size w w') := by
    rintro hno e w' ⟨he, hb⟩
    unfold rdP at h
    rw [if_neg hno] at h
    simp only [Prod.mk.injEq] at h
    obtain ⟨rfl, rfl, rfl, rfl, rfl, rfl, rfl, rfl, rfl, rfl, rfl⟩ := h
    exact ⟨_, _, he, Kd.R_nil _ _ _ _ _, Kd.S_nil _ _ _ _ _, hb⟩
  have HRES := Lib.hid h
  have HC := Lib.hid hr0
  have HBY := Lib.hid hby
  clear h hr0 hby
  go_enter_defers Tryd.func11, Tryd.ntmps11
  go_upto_region 1 with fail
  obtain ⟨bp, hbp⟩ : ∃ b, w.heap.size = b := ⟨_, rfl⟩
  obtain ⟨bf, hbf⟩ : ∃ b, bp + 1 = b := ⟨_, rfl⟩
  obtain ⟨w1, hw1⟩ : ∃ W, (w.alloc (.cells pkNilC 28)).alloc (.cells #[.bool false] 4) = W := ⟨_, rfl⟩
  have hp1 : w1.heap[bp]? = some (.cells pkNilC 28 (0, 0)) := by rw [← hw1, ← hbp]; exact (Below.heap_alloc _ _ _ (by simp)).trans (blk_new _ _)
  have hf1 : Boxed w1 bf 4 (.bool false) := by
    have := Boxed.new (w.alloc (.cells pkNilC 28)) 4 (.bool false)
    rw [← hw1, ← hbf, ← hbp]
    simpa using this
  have hb1 : Below w.heap.size w w1 := by rw [← hw1]; exact below_alloc (below_alloc (Below.refl _ _) _) _
  have HORD : Hid (w.heap.size ≤ bp ∧ bp < bf ∧ bf < w1.heap.size) := ⟨by omega, by omega, hf1.lt⟩
  have HQ := Lib.hid (And.intro hp1 (And.intro hf1 hb1))
  clear hp1 hf1 hb1
  rw [hbp, hbf]
  try rw [hw1]
  clear hbp hbf hw1
  go_upto_region 3 with fail
  obtain ⟨g, hg⟩ : ∃ b, w1.heap.size = b := ⟨_, rfl⟩
  obtain ⟨w3, hw3⟩ : ∃ W, w1.alloc (.cells #[.slice A0 l0.length c0] 54) = W := ⟨_, rfl⟩
  have S0 : PrSt w bp bf g l0 #[.int .i64 0, .int .u32 0, .int .i64 0, .int .i64 0, .int .u32 0, .int .u32 0, .int .u32 0, .int .u32 0, .slice none 0 0, .slice none 0 0] 0 w3 := by
    obtain ⟨hp1, hf1, hb1⟩ := HQ.out
    have hb3 : Below w1.heap.size w1 w3 := by rw [← hw3]; exact below_alloc (Below.refl _ _) _
    have hn3 : Boxed w3 g 54 (.slice A0 l0.length c0) := by rw [← hw3, ← hg]; exact Boxed.new _ _ _
    refine ⟨(hb3.block bp (blk_lt hp1)).trans hp1, (hb3.block bf hf1.lt).trans hf1, ⟨Nat.zero_le _, A0, c0, hn3, hc0, HC.out⟩, hb1.trans (hb3.mono hb1.size), ?_⟩
    have := HORD.out
    omega
  try rw [hw3]
  try rw [hg]
  clear hw3 hg HQ HORD HC
  have HG : Hid (w.heap.size ≤ g) := by have := S0.ord; show _ ≤ _; omega
  have HS := Lib.hid S0
  clear S0
  by_cases hk : 0 + 1 ≤ l0.length
  case neg =>
    have HX : Hid (¬ rdOk l0) := fun hok => by have := hok.1; omega
    have HT := Lib.hid (rbyte_no w g l0 (0) _ HS.out.rd (by omega))
    clear hk
    go_wp2_with fail
    refine HT.out.mono ?_
    rintro e w4 ⟨rfl, rfl⟩
    go_wp2_with fail
    exact prd_panic HS.out.pk HS.out.fl HS.out.be HS.out.ord rfl rfl (fun W' hW => HPAN.out HX.out _ _ ⟨rfl, hW⟩)
  have HT := Lib.hid (rbyte_ok w g l0 (0) _ HS.out.rd HS.out.be HG.out (by omega) HBY.out hlen)
  have HK := Lib.hid hk
  clear hk
  go_wp2_with fail
  refine HT.out.mono ?_
  rintro e w4 ⟨rfl, hr, ho⟩
  have HS2 := Lib.hid (HS.out.one ho hr)
  clear hr ho HT HS HK
  have HS := HS2
  clear HS2
  have y0 := (blk_cell HS.out.pk 0).trans rfl
  have z0 := blk_frozen HS.out.pk 0
  go_upto_region 4 with fail
  clear y0 z0
  have HS2 := Lib.hid (HS.out.put (cs' := #[.int .i64 (bA l0 0), .int .u32 0, .int .i64 0, .int .i64 0, .int .u32 0, .int .u32 0, .int .u32 0, .int .u32 0, .slice none 0 0, .slice none 0 0]) 0 (.int .i64 (bA l0 0)) rfl)
  obtain ⟨w5, hw5⟩ : ∃ W, w4.setCell ⟨bp, 0, none⟩ (.int .i64 (bA l0 0)) = W := ⟨_, rfl⟩
  rw [hw5] at HS2
  try rw [hw5]
  clear hw5 HS
  have HS := HS2
  clear HS2
  -- @ethernet
  by_cases hk : 1 + 1 ≤ l0.length
  case neg =>
    have HX : Hid (¬ rdOk l0) := fun hok => by have := hok.1; omega
    have HT := Lib.hid (rbyte_no w g l0 (1) _ HS.out.rd (by omega))
    clear hk
    go_wp2_with fail
    refine HT.out.mono ?_
    rintro e w6 ⟨rfl, rfl⟩
    go_wp2_with fail
    exact prd_panic HS.out.pk HS.out.fl HS.out.be HS.out.ord rfl rfl (fun W' hW => HPAN.out HX.out _ _ ⟨rfl, hW⟩)
  have HT := Lib.hid (rbyte_ok w g l0 (1) _ HS.out.rd HS.out.be HG.out (by omega) HBY.out hlen)
  have HK := Lib.hid hk
  clear hk
  go_wp2_with fail
  refine HT.out.mono ?_
  rintro e w6 ⟨rfl, hr, ho⟩
  have HS2 := Lib.hid (HS.out.one ho hr)
  clear hr ho HT HS HK
  have HS := HS2
  clear HS2
  by_cases hq : bA l0 1 = 1
  case neg =>
    have q0 : (bA l0 1 == 1) = false := beq_eq_false_iff_ne.2 hq
    have HX : Hid (¬ rdOk l0) := fun hok => hq (hok.2.1)
    clear hq
    go_wp2_with fail
    refine (must_no _).mono ?_
    rintro e w7 ⟨rfl, rfl⟩
    go_wp2_with fail
    exact prd_panic HS.out.pk HS.out.fl HS.out.be HS.out.ord rfl rfl (fun W' hW => HPAN.out HX.out _ _ ⟨rfl, hW⟩)
  have q0 : (bA l0 1 == 1) = true := beq_iff_eq.2 hq
  have HQ := Lib.hid hq
  clear hq
  go_wp2_with fail
  refine (must_yes _).mono ?_
  rintro e w8 ⟨rfl, rfl⟩
  clear q0
  have HQ1 := HQ
  clear HQ
  -- @n
  by_cases hk : 2 + 1 ≤ l0.length
  case neg =>
    have HX : Hid (¬ rdOk l0) := fun hok => by have := hok.1; omega
    have HT := Lib.hid (rbyte_no w g l0 (2) _ HS.out.rd (by omega))
    clear hk
    go_wp2_with fail
    refine HT.out.mono ?_
    rintro e w9 ⟨rfl, rfl⟩
    go_wp2_with fail
    exact prd_panic HS.out.pk HS.out.fl HS.out.be HS.out.ord rfl rfl (fun W' hW => HPAN.out HX.out _ _ ⟨rfl, hW⟩)
  have HT := Lib.hid (rbyte_ok w g l0 (2) _ HS.out.rd HS.out.be HG.out (by omega) HBY.out hlen)
  have hn2 := bA_in HBY.out 2
  obtain ⟨n, hn⟩ : ∃ n : Nat, bA l0 2 = (n : Int) := ⟨(bA l0 2).toNat, by omega⟩
  have hn255 : (n : Int) ≤ 255 := by omega
  rw [hn] at HT
  have HN := Lib.hid hn
  clear hn hn2
  have HK := Lib.hid hk
  clear hk
  go_wp2_with fail
  refine HT.out.mono ?_
  rintro e w9 ⟨rfl, hr, ho⟩
  have HS2 := Lib.hid (HS.out.one ho hr)
  clear hr ho HT HS HK
  have HS := HS2
  clear HS2
  by_cases h16 : n ≤ 16
  case neg =>
    have p1 : ((n : Int) ≤ 16) = False := eq_false (by omega)
    have p2 : (n ≤ 16) = False := eq_false h16
    have HX : Hid (¬ rdOk l0) := fun hok => by have h1 := hok.2.2.1; have h2 := HN.out; omega
    clear h16
    go_wp2_with fail
    refine (must_no _).mono ?_
    rintro e w10 ⟨rfl, rfl⟩
    go_wp2_with fail
    exact prd_panic HS.out.pk HS.out.fl HS.out.be HS.out.ord rfl rfl (fun W' hW => HPAN.out HX.out _ _ ⟨rfl, hW⟩)
  have p1 : ((n : Int) ≤ 16) = True := eq_true (by omega)
  have p2 : (n ≤ 16) = True := eq_true h16
  by_cases hk : 3 + 1 ≤ l0.length
  case neg =>
    have HX : Hid (¬ rdOk l0) := fun hok => by have := hok.1; omega
    have HT := Lib.hid (rbyte_no w g l0 (3) _ HS.out.rd (by omega))
    clear hk
    go_wp2_with fail
    refine HT.out.mono ?_
    rintro e w11 ⟨rfl, rfl⟩
    go_wp2_with fail
    exact prd_panic HS.out.pk HS.out.fl HS.out.be HS.out.ord rfl rfl (fun W' hW => HPAN.out HX.out _ _ ⟨rfl, hW⟩)
  have HT := Lib.hid (rbyte_ok w g l0 (3) _ HS.out.rd HS.out.be HG.out (by omega) HBY.out hlen)
  have HK := Lib.hid hk
  clear hk
  go_wp2_with fail
  refine HT.out.mono ?_
  rintro e w11 ⟨rfl, hr, ho⟩
  have HS2 := Lib.hid (HS.out.one ho hr)
  clear hr ho HT HS HK
  have HS := HS2
  clear HS2
  by_cases hq : bA l0 3 = 0
  case neg =>
    have q0 : (bA l0 3 == 0) = false := beq_eq_false_iff_ne.2 hq
    have HX : Hid (¬ rdOk l0) := fun hok => hq (hok.2.2.2.1)
    clear hq
    go_wp2_with fail
    refine (must_no _).mono ?_
    rintro e w12 ⟨rfl, rfl⟩
    go_wp2_with fail
    exact prd_panic HS.out.pk HS.out.fl HS.out.be HS.out.ord rfl rfl (fun W' hW => HPAN.out HX.out _ _ ⟨rfl, hW⟩)
  have q0 : (bA l0 3 == 0) = true := beq_iff_eq.2 hq
  have HQ := Lib.hid hq
  clear hq
  go_wp2_with fail
  refine (must_yes _).mono ?_
  rintro e w13 ⟨rfl, rfl⟩
  clear q0
  have HQ3 := HQ
  clear HQ p1 p2
  -- @Flags
  by_cases hk : 4 + 4 ≤ l0.length
  case neg =>
    have HX : Hid (¬ rdOk l0) := fun hok => by have := hok.1; omega
    have HT := Lib.hid (rlong_no w g l0 (4) _ HS.out.rd HS.out.be HG.out (by omega) HBY.out hlen)
    clear hk
    go_wp2_with fail
    refine HT.out.mono ?_
    rintro e w14 ⟨rfl, ho⟩
    have HO := Lib.hid ho
    clear ho
    go_wp2_with fail
    have hso := HS.out
    have hoo := HO.out
    have hor := hso.ord
    exact prd_panic ((hoo.block bp (blk_lt hso.pk) (by omega)).trans hso.pk) ((hoo.block bf hso.fl.lt (by omega)).trans hso.fl) (hoo.below hso.be HG.out) hor rfl rfl (fun W' hW => HPAN.out HX.out _ _ ⟨rfl, hW⟩)
  have HT := Lib.hid (rlong_ok w g l0 (4) _ HS.out.rd HS.out.be HG.out (by omega) HBY.out hlen)
  have HK := Lib.hid hk
  clear hk
  go_wp2_with fail
  refine HT.out.mono ?_
  rintro e w14 ⟨rfl, hr, ho⟩
  have HS2 := Lib.hid (HS.out.one ho hr)
  clear hr ho HT HS HK
  have HS := HS2
  clear HS2
  by_cases hk : 8 + 2 ≤ l0.length
  case neg =>
    have HX : Hid (¬ rdOk l0) := fun hok => by have := hok.1; omega
    have HT := Lib.hid (rshort_no w g l0 (8) _ HS.out.rd (by omega))
    clear hk
    go_wp2_with fail
    refine HT.out.mono ?_
    rintro e w15 ⟨rfl, rfl⟩
    go_wp2_with fail
    exact prd_panic HS.out.pk HS.out.fl HS.out.be HS.out.ord rfl rfl (fun W' hW => HPAN.out HX.out _ _ ⟨rfl, hW⟩)
  have HT := Lib.hid (rshort_ok w g l0 (8) _ HS.out.rd HS.out.be HG.out (by omega) HBY.out hlen)
  have HK := Lib.hid hk
  clear hk
  go_wp2_with fail
  refine HT.out.mono ?_
  rintro e w15 ⟨rfl, hr, ho⟩
  have HS2 := Lib.hid (HS.out.one ho hr)
  clear hr ho HT HS HK
  have HS := HS2
  clear HS2
  by_cases hk : 10 + 2 ≤ l0.length
  case neg =>
    have HX : Hid (¬ rdOk l0) := fun hok => by have := hok.1; omega
    have HT := Lib.hid (rshort_no w g l0 (10) _ HS.out.rd (by omega))
    clear hk
    go_wp2_with fail
    refine HT.out.mono ?_
    rintro e w16 ⟨rfl, rfl⟩
    go_wp2_with fail
    exact prd_panic HS.out.pk HS.out.fl HS.out.be HS.out.ord rfl rfl (fun W' hW => HPAN.out HX.out _ _ ⟨rfl, hW⟩)
  have HT := Lib.hid (rshort_ok w g l0 (10) _ HS.out.rd HS.out.be HG.out (by omega) HBY.out hlen)
  have HK := Lib.hid hk
  clear hk
  go_wp2_with fail
  refine HT.out.mono ?_
  rintro e w16 ⟨rfl, hr, ho⟩
  have HS2 := Lib.hid (HS.out.one ho hr)
  clear hr ho HT HS HK
  have HS := HS2
  clear HS2
  have y1 := (blk_cell HS.out.pk 1).trans rfl
  have z1 := blk_frozen HS.out.pk 1
  have y2 : ∀ u, (w16.setCell ⟨bp, 1, none⟩ u).cell? ⟨bp, 2, none⟩ = some (.int .i64 0) := fun u => (blk_cell (blk_set HS.out.pk 1 u) 2).trans rfl
  have z2 : ∀ u, (w16.setCell ⟨bp, 1, none⟩ u).frozen? ⟨bp, 2, none⟩ = false := fun u => blk_frozen (blk_set HS.out.pk 1 u) 2
  have y3 : ∀ u v, ((w16.setCell ⟨bp, 1, none⟩ u).setCell ⟨bp, 2, none⟩ v).cell? ⟨bp, 3, none⟩ = some (.int .i64 0) := fun u v => (blk_cell (blk_set (blk_set HS.out.pk 1 u) 2 v) 3).trans rfl
  have z3 : ∀ u v, ((w16.setCell ⟨bp, 1, none⟩ u).setCell ⟨bp, 2, none⟩ v).frozen? ⟨bp, 3, none⟩ = false := fun u v => blk_frozen (blk_set (blk_set HS.out.pk 1 u) 2 v) 3
  go_upto_region 8 with fail
  clear y1 z1 y2 z2 y3 z3
  have HS2 := Lib.hid (((HS.out.put 1 (.int .u32 (lA l0 4)) rfl).put 2 (.int .i64 (sA l0 8)) rfl).put (cs' := #[.int .i64 (bA l0 0), .int .u32 (lA l0 4), .int .i64 (sA l0 8), .int .i64 (sA l0 10), .int .u32 0, .int .u32 0, .int .u32 0, .int .u32 0, .slice none 0 0, .slice none 0 0]) 3 (.int .i64 (sA l0 10)) rfl)
  obtain ⟨w17, hw17⟩ : ∃ W, ((w16.setCell ⟨bp, 1, none⟩ (.int .u32 (lA l0 4))).setCell ⟨bp, 2, none⟩ (.int .i64 (sA l0 8))).setCell ⟨bp, 3, none⟩ (.int .i64 (sA l0 10)) = W := ⟨_, rfl⟩
  rw [hw17] at HS2
  try rw [hw17]
  clear hw17 HS
  have HS := HS2
  clear HS2
  -- @addresses
  go_wp2_with fail
  go_loopw [36] (fun i wr => ∃ k : Nat, k ≤ 4 ∧ i = .int .i64 k ∧ Hid (PrSt w bp bf g l0 (adC l0 k) (12 + 4 * k) wr)) (fun i _ => 4 - (intOf i).toNat)
  case atStart => exact ⟨0, Nat.zero_le _, rfl, HS⟩
  case round =>
    clear HS
    obtain ⟨k, hk4, hv, HS⟩ := hrel
    obtain rfl | rfl | rfl | rfl | rfl : k = 0 ∨ k = 1 ∨ k = 2 ∨ k = 3 ∨ k = 4 := by omega
    · have HS1 : Hid (PrSt w bp bf g l0 #[.int .i64 (bA l0 0), .int .u32 (lA l0 4), .int .i64 (sA l0 8), .int .i64 (sA l0 10), .int .u32 0, .int .u32 0, .int .u32 0, .int .u32 0, .slice none 0 0, .slice none 0 0] 12 wr) := HS
      clear HS
      have HS := HS1
      clear HS1 hk4
      replace hv : u36 = .int .i64 0 := hv
      subst hv
      have hix : ∀ W : World, (Instr.index 59 (.agg #[.pointer (some ⟨bp, 4, none⟩), .pointer (some ⟨bp, 5, none⟩), .pointer (some ⟨bp, 6, none⟩), .pointer (some ⟨bp, 7, none⟩)]) (.int .i64 0)).run Tryd.prog W = .ok (.pointer (some ⟨bp, 4, none⟩)) W := fun W => idxp _ _ _ _ 0 (by decide) W
      by_cases hk : 12 + 4 ≤ l0.length
      case neg =>
        have HX : Hid (¬ rdOk l0) := fun hok => by have := hok.1; omega
        have HT := Lib.hid (rlong_no w g l0 (12) _ HS.out.rd HS.out.be HG.out (by omega) HBY.out hlen)
        clear hk
        go_wp2_with fail
        refine HT.out.mono ?_
        rintro e w18 ⟨rfl, ho⟩
        have HO := Lib.hid ho
        clear ho
        go_wp2_with fail
        have hso := HS.out
        have hoo := HO.out
        have hor := hso.ord
        exact prd_panic ((hoo.block bp (blk_lt hso.pk) (by omega)).trans hso.pk) ((hoo.block bf hso.fl.lt (by omega)).trans hso.fl) (hoo.below hso.be HG.out) hor rfl rfl (fun W' hW => HPAN.out HX.out _ _ ⟨rfl, hW⟩)
      have HT := Lib.hid (rlong_ok w g l0 (12) _ HS.out.rd HS.out.be HG.out (by omega) HBY.out hlen)
      have HK := Lib.hid hk
      clear hk
      go_wp2_with fail
      refine HT.out.mono ?_
      rintro e w18 ⟨rfl, hr, ho⟩
      have HS2 := Lib.hid (HS.out.one ho hr)
      clear hr ho HT HS HK
      have HS := HS2
      clear HS2
      have y4 := (blk_cell HS.out.pk 4).trans rfl
      have z4 := blk_frozen HS.out.pk 4
      go_wp2_with fail
      clear y4 z4 hix
      have HS2 := Lib.hid (HS.out.put (cs' := #[.int .i64 (bA l0 0), .int .u32 (lA l0 4), .int .i64 (sA l0 8), .int .i64 (sA l0 10), .int .u32 (lA l0 12), .int .u32 0, .int .u32 0, .int .u32 0, .slice none 0 0, .slice none 0 0]) 4 (.int .u32 (lA l0 12)) rfl)
      obtain ⟨w19, hw19⟩ : ∃ W, w18.setCell ⟨bp, 4, none⟩ (.int .u32 (lA l0 12)) = W := ⟨_, rfl⟩
      rw [hw19] at HS2
      try rw [hw19]
      clear hw19 HS
      have HS := HS2
      clear HS2
      go_roundw
      case rel =>
        first
          | exact ⟨1, by omega, rfl, HS⟩
          | ((repeat apply Exists.intro); exact ⟨⟨1, by omega, rfl, HS⟩, rfl⟩)
          | ((repeat apply Exists.intro); exact ⟨⟨1, by omega, rfl, HS⟩, rfl, rfl⟩)
          | ((repeat apply Exists.intro); exact ⟨⟨1, by omega, rfl, HS⟩, rfl, rfl, rfl⟩)
          | ((repeat apply Exists.intro); exact ⟨⟨1, by omega, rfl, HS⟩, rfl, rfl, rfl, rfl⟩)
          | ((repeat apply Exists.intro); exact ⟨⟨1, by omega, rfl, HS⟩, rfl, rfl, rfl, rfl, rfl⟩)
      case measure => simp [intOf]
    · have HS1 : Hid (PrSt w bp bf g l0 #[.int .i64 (bA l0 0), .int .u32 (lA l0 4), .int .i64 (sA l0 8), .int .i64 (sA l0 10), .int .u32 (lA l0 12), .int .u32 0, .int .u32 0, .int .u32 0, .slice none 0 0, .slice none 0 0] 16 wr) := HS
      clear HS
      have HS := HS1
      clear HS1 hk4
      replace hv : u36 = .int .i64 1 := hv
      subst hv
      have hix : ∀ W : World, (Instr.index 59 (.agg #[.pointer (some ⟨bp, 4, none⟩), .pointer (some ⟨bp, 5, none⟩), .pointer (some ⟨bp, 6, none⟩), .pointer (some ⟨bp, 7, none⟩)]) (.int .i64 1)).run Tryd.prog W = .ok (.pointer (some ⟨bp, 5, none⟩)) W := fun W => idxp _ _ _ _ 1 (by decide) W
      by_cases hk : 16 + 4 ≤ l0.length
      case neg =>
        have HX : Hid (¬ rdOk l0) := fun hok => by have := hok.1; omega
        have HT := Lib.hid (rlong_no w g l0 (16) _ HS.out.rd HS.out.be HG.out (by omega) HBY.out hlen)
        clear hk
        go_wp2_with fail
        refine HT.out.mono ?_
        rintro e w20 ⟨rfl, ho⟩
        have HO := Lib.hid ho
        clear ho
        go_wp2_with fail
        have hso := HS.out
        have hoo := HO.out
        have hor := hso.ord
        exact prd_panic ((hoo.block bp (blk_lt hso.pk) (by omega)).trans hso.pk) ((hoo.block bf hso.fl.lt (by omega)).trans hso.fl) (hoo.below hso.be HG.out) hor rfl rfl (fun W' hW => HPAN.out HX.out _ _ ⟨rfl, hW⟩)
      have HT := Lib.hid (rlong_ok w g l0 (16) _ HS.out.rd HS.out.be HG.out (by omega) HBY.out hlen)
      have HK := Lib.hid hk
      clear hk
      go_wp2_with fail
      refine HT.out.mono ?_
      rintro e w20 ⟨rfl, hr, ho⟩
      have HS2 := Lib.hid (HS.out.one ho hr)
      clear hr ho HT HS HK
      have HS := HS2
      clear HS2
      have y4 := (blk_cell HS.out.pk 5).trans rfl
      have z4 := blk_frozen HS.out.pk 5
      go_wp2_with fail
      clear y4 z4 hix
      have HS2 := Lib.hid (HS.out.put (cs' := #[.int .i64 (bA l0 0), .int .u32 (lA l0 4), .int .i64 (sA l0 8), .int .i64 (sA l0 10), .int .u32 (lA l0 12), .int .u32 (lA l0 16), .int .u32 0, .int .u32 0, .slice none 0 0, .slice none 0 0]) 5 (.int .u32 (lA l0 16)) rfl)
      obtain ⟨w21, hw21⟩ : ∃ W, w20.setCell ⟨bp, 5, none⟩ (.int .u32 (lA l0 16)) = W := ⟨_, rfl⟩
      rw [hw21] at HS2
      try rw [hw21]
      clear hw21 HS
      have HS := HS2
      clear HS2
      go_roundw
      case rel =>
        first
          | exact ⟨2, by omega, rfl, HS⟩
          | ((repeat apply Exists.intro); exact ⟨⟨2, by omega, rfl, HS⟩, rfl⟩)
          | ((repeat apply Exists.intro); exact ⟨⟨2, by omega, rfl, HS⟩, rfl, rfl⟩)
          | ((repeat apply Exists.intro); exact ⟨⟨2, by omega, rfl, HS⟩, rfl, rfl, rfl⟩)
          | ((repeat apply Exists.intro); exact ⟨⟨2, by omega, rfl, HS⟩, rfl, rfl, rfl, rfl⟩)
          | ((repeat apply Exists.intro); exact ⟨⟨2, by omega, rfl, HS⟩, rfl, rfl, rfl, rfl, rfl⟩)
      case measure => simp [intOf]
    · have HS1 : Hid (PrSt w bp bf g l0 #[.int .i64 (bA l0 0), .int .u32 (lA l0 4), .int .i64 (sA l0 8), .int .i64 (sA l0 10), .int .u32 (lA l0 12), .int .u32 (lA l0 16), .int .u32 0, .int .u32 0, .slice none 0 0, .slice none 0 0] 20 wr) := HS
      clear HS
      have HS := HS1
      clear HS1 hk4
      replace hv : u36 = .int .i64 2 := hv
      subst hv
      have hix : ∀ W : World, (Instr.index 59 (.agg #[.pointer (some ⟨bp, 4, none⟩), .pointer (some ⟨bp, 5, none⟩), .pointer (some ⟨bp, 6, none⟩), .pointer (some ⟨bp, 7, none⟩)]) (.int .i64 2)).run Tryd.prog W = .ok (.pointer (some ⟨bp, 6, none⟩)) W := fun W => idxp _ _ _ _ 2 (by decide) W
      by_cases hk : 20 + 4 ≤ l0.length
      case neg =>
        have HX : Hid (¬ rdOk l0) := fun hok => by have := hok.1; omega
        have HT := Lib.hid (rlong_no w g l0 (20) _ HS.out.rd HS.out.be HG.out (by omega) HBY.out hlen)
        clear hk
        go_wp2_with fail
        refine HT.out.mono ?_
        rintro e w22 ⟨rfl, ho⟩
        have HO := Lib.hid ho
        clear ho
        go_wp2_with fail
        have hso := HS.out
        have hoo := HO.out
        have hor := hso.ord
        exact prd_panic ((hoo.block bp (blk_lt hso.pk) (by omega)).trans hso.pk) ((hoo.block bf hso.fl.lt (by omega)).trans hso.fl) (hoo.below hso.be HG.out) hor rfl rfl (fun W' hW => HPAN.out HX.out _ _ ⟨rfl, hW⟩)
      have HT := Lib.hid (rlong_ok w g l0 (20) _ HS.out.rd HS.out.be HG.out (by omega) HBY.out hlen)
      have HK := Lib.hid hk
      clear hk
      go_wp2_with fail
      refine HT.out.mono ?_
      rintro e w22 ⟨rfl, hr, ho⟩
      have HS2 := Lib.hid (HS.out.one ho hr)
      clear hr ho HT HS HK
      have HS := HS2
      clear HS2
      have y4 := (blk_cell HS.out.pk 6).trans rfl
      have z4 := blk_frozen HS.out.pk 6
      go_wp2_with fail
      clear y4 z4 hix
      have HS2 := Lib.hid (HS.out.put (cs' := #[.int .i64 (bA l0 0), .int .u32 (lA l0 4), .int .i64 (sA l0 8), .int .i64 (sA l0 10), .int .u32 (lA l0 12), .int .u32 (lA l0 16), .int .u32 (lA l0 20), .int .u32 0, .slice none 0 0, .slice none 0 0]) 6 (.int .u32 (lA l0 20)) rfl)
      obtain ⟨w23, hw23⟩ : ∃ W, w22.setCell ⟨bp, 6, none⟩ (.int .u32 (lA l0 20)) = W := ⟨_, rfl⟩
      rw [hw23] at HS2
      try rw [hw23]
      clear hw23 HS
      have HS := HS2
      clear HS2
      go_roundw
      case rel =>
        first
          | exact ⟨3, by omega, rfl, HS⟩
          | ((repeat apply Exists.intro); exact ⟨⟨3, by omega, rfl, HS⟩, rfl⟩)
          | ((repeat apply Exists.intro); exact ⟨⟨3, by omega, rfl, HS⟩, rfl, rfl⟩)
          | ((repeat apply Exists.intro); exact ⟨⟨3, by omega, rfl, HS⟩, rfl, rfl, rfl⟩)
          | ((repeat apply Exists.intro); exact ⟨⟨3, by omega, rfl, HS⟩, rfl, rfl, rfl, rfl⟩)
          | ((repeat apply Exists.intro); exact ⟨⟨3, by omega, rfl, HS⟩, rfl, rfl, rfl, rfl, rfl⟩)
      case measure => simp [intOf]
    · have HS1 : Hid (PrSt w bp bf g l0 #[.int .i64 (bA l0 0), .int .u32 (lA l0 4), .int .i64 (sA l0 8), .int .i64 (sA l0 10), .int .u32 (lA l0 12), .int .u32 (lA l0 16), .int .u32 (lA l0 20), .int .u32 0, .slice none 0 0, .slice none 0 0] 24 wr) := HS
      clear HS
      have HS := HS1
      clear HS1 hk4
      replace hv : u36 = .int .i64 3 := hv
      subst hv
      have hix : ∀ W : World, (Instr.index 59 (.agg #[.pointer (some ⟨bp, 4, none⟩), .pointer (some ⟨bp, 5, none⟩), .pointer (some ⟨bp, 6, none⟩), .pointer (some ⟨bp, 7, none⟩)]) (.int .i64 3)).run Tryd.prog W = .ok (.pointer (some ⟨bp, 7, none⟩)) W := fun W => idxp _ _ _ _ 3 (by decide) W
      by_cases hk : 24 + 4 ≤ l0.length
      case neg =>
        have HX : Hid (¬ rdOk l0) := fun hok => by have := hok.1; omega
        have HT := Lib.hid (rlong_no w g l0 (24) _ HS.out.rd HS.out.be HG.out (by omega) HBY.out hlen)
        clear hk
        go_wp2_with fail
        refine HT.out.mono ?_
        rintro e w24 ⟨rfl, ho⟩
        have HO := Lib.hid ho
        clear ho
        go_wp2_with fail
        have hso := HS.out
        have hoo := HO.out
        have hor := hso.ord
        exact prd_panic ((hoo.block bp (blk_lt hso.pk) (by omega)).trans hso.pk) ((hoo.block bf hso.fl.lt (by omega)).trans hso.fl) (hoo.below hso.be HG.out) hor rfl rfl (fun W' hW => HPAN.out HX.out _ _ ⟨rfl, hW⟩)
      have HT := Lib.hid (rlong_ok w g l0 (24) _ HS.out.rd HS.out.be HG.out (by omega) HBY.out hlen)
      have HK := Lib.hid hk
      clear hk
      go_wp2_with fail
      refine HT.out.mono ?_
      rintro e w24 ⟨rfl, hr, ho⟩
      have HS2 := Lib.hid (HS.out.one ho hr)
      clear hr ho HT HS HK
      have HS := HS2
      clear HS2
      have y4 := (blk_cell HS.out.pk 7).trans rfl
      have z4 := blk_frozen HS.out.pk 7
      go_wp2_with fail
      clear y4 z4 hix
      have HS2 := Lib.hid (HS.out.put (cs' := #[.int .i64 (bA l0 0), .int .u32 (lA l0 4), .int .i64 (sA l0 8), .int .i64 (sA l0 10), .int .u32 (lA l0 12), .int .u32 (lA l0 16), .int .u32 (lA l0 20), .int .u32 (lA l0 24), .slice none 0 0, .slice none 0 0]) 7 (.int .u32 (lA l0 24)) rfl)
      obtain ⟨w25, hw25⟩ : ∃ W, w24.setCell ⟨bp, 7, none⟩ (.int .u32 (lA l0 24)) = W := ⟨_, rfl⟩
      rw [hw25] at HS2
      try rw [hw25]
      clear hw25 HS
      have HS := HS2
      clear HS2
      go_roundw
      case rel =>
        first
          | exact ⟨4, by omega, rfl, HS⟩
          | ((repeat apply Exists.intro); exact ⟨⟨4, by omega, rfl, HS⟩, rfl⟩)
          | ((repeat apply Exists.intro); exact ⟨⟨4, by omega, rfl, HS⟩, rfl, rfl⟩)
          | ((repeat apply Exists.intro); exact ⟨⟨4, by omega, rfl, HS⟩, rfl, rfl, rfl⟩)
          | ((repeat apply Exists.intro); exact ⟨⟨4, by omega, rfl, HS⟩, rfl, rfl, rfl, rfl⟩)
          | ((repeat apply Exists.intro); exact ⟨⟨4, by omega, rfl, HS⟩, rfl, rfl, rfl, rfl, rfl⟩)
      case measure => simp [intOf]
    · have HS1 : Hid (PrSt w bp bf g l0 #[.int .i64 (bA l0 0), .int .u32 (lA l0 4), .int .i64 (sA l0 8), .int .i64 (sA l0 10), .int .u32 (lA l0 12), .int .u32 (lA l0 16), .int .u32 (lA l0 20), .int .u32 (lA l0 24), .slice none 0 0, .slice none 0 0] 28 wr) := HS
      clear HS
      have HS := HS1
      clear HS1 hk4
      replace hv : u36 = .int .i64 4 := hv
      subst hv
      -- @address
      by_cases hk : 28 + n ≤ l0.length
      case neg =>
        have HX : Hid (¬ rdOk l0) := fun hok => by have := hok.1; omega
        have HT := Lib.hid (rtake_no w g l0 28 n _ HS.out.rd (by omega))
        clear hk
        go_wp2_with fail
        refine HT.out.mono ?_
        rintro e w26 ⟨rfl, rfl⟩
        go_wp2_with fail
        exact prd_panic HS.out.pk HS.out.fl HS.out.be HS.out.ord rfl rfl (fun W' hW => HPAN.out HX.out _ _ ⟨rfl, hW⟩)
      have HT := Lib.hid (rtake_ok w g l0 28 n _ HS.out.rd hk hlen)
      have HXL : Hid (((l0.drop 28).take n).length = n) := by show _ = _; rw [List.length_take, List.length_drop]; omega
      clear hk
      go_wp2_with fail
      refine HT.out.mono ?_
      rintro e w27 ⟨⟨Ah, ch, rfl, hch, hCh⟩, hr, ho⟩
      have HS2 := Lib.hid (HS.out.one ho hr)
      have HCH := Lib.hid hCh
      clear hr ho HT HS hCh
      have HS := HS2
      clear HS2
      have HCL : Hid (Calls Tryd.prog 26 #[.slice Ah n ch] w27 fun e w' => ∃ v0_ : Value, e = .returned v0_ ∧ Kd.R (Kd.int .u8) 5 w' w27.heap.size (fun _ => True) v0_ ((l0.drop 28).take n) ∧ Below w27.heap.size w27 w') := by
        have hC0 : (Kd.int .u8).C w Ah ((l0.drop 28).take n).length ((l0.drop 28).take n) := by rw [HXL.out]; exact HCH.out
        have hC := Kd.C_below hC0 HS.out.be
        have := clone_calls Ah ch ((l0.drop 28).take n) w27 hC (by rw [HXL.out]; exact hch) (by rw [HXL.out]; omega)
        rwa [HXL.out] at this
      have HVB : Hid (w.heap.size ≤ w27.heap.size) := HS.out.be.size
      go_wp2_with fail
      refine HCL.out.mono ?_
      rintro e w28 ⟨v5, rfl, hv5, hb5⟩
      obtain ⟨A5, c5, rfl⟩ := Kd.R_slice hv5
      have HS2 := Lib.hid (HS.out.grow hb5)
      have HV := Lib.hid (Kd.R_tight rfl hv5)
      have HVN : Hid (∀ k, (Value.slice A5 ((l0.drop 28).take n).length c5).ownBlock = some k → g < k ∧ k < w28.heap.size) := fun k hk => ⟨Nat.lt_of_lt_of_le HS.out.rd.lt (Kd.R_base hv5 k hk), Kd.R_lt hv5 k hk⟩
      clear hv5 hb5 HS HCL
      have HS := HS2
      clear HS2
      obtain ⟨xh, hxh⟩ : ∃ xh, xh = (l0.drop 28).take n := ⟨_, rfl⟩
      rw [← hxh] at HV HVN HXL ⊢
      have HXH := Lib.hid hxh
      clear hxh
      have y8 := (blk_cell HS.out.pk 8).trans rfl
      have z8 := blk_frozen HS.out.pk 8
      go_upto_region 14 with fail
      clear y8 z8
      have HV2 := Lib.hid (Kd.R_step (w1 := w28.setCell ⟨bp, 8, none⟩ (.slice A5 xh.length c5)) HV.out (fun k hk hlt => by have hkg := (HVN.out k hk.symm).1; have hor := HS.out.ord; exact Below.heap_setCell _ _ _ k (show k ≠ bp by omega)))
      have HS2 := Lib.hid (HS.out.put (cs' := #[.int .i64 (bA l0 0), .int .u32 (lA l0 4), .int .i64 (sA l0 8), .int .i64 (sA l0 10), .int .u32 (lA l0 12), .int .u32 (lA l0 16), .int .u32 (lA l0 20), .int .u32 (lA l0 24), .slice A5 xh.length c5, .slice none 0 0]) 8 (.slice A5 xh.length c5) rfl)
      obtain ⟨w29, hw29⟩ : ∃ W, w28.setCell ⟨bp, 8, none⟩ (.slice A5 xh.length c5) = W := ⟨_, rfl⟩
      rw [hw29] at HS2 HV2
      try rw [hw29]
      clear hw29 HS HV
      have HS := HS2
      have HV := HV2
      clear HS2 HV2
      -- @pad
      have e1 : IntKind.i64.wrap (16 - (n : Int)) = 16 - (n : Int) := IntWalk.i64_in _ (by omega)
      obtain ⟨m, hm⟩ : ∃ m, m = 208 - n := ⟨_, rfl⟩
      have hmn : n + m = 208 := by omega
      have e2 : IntKind.i64.wrap (16 - (n : Int) + 192) = (m : Int) := by rw [IntWalk.i64_in _ (by omega)]; omega
      have e3 : 16 - (n : Int) + 192 = (m : Int) := by omega
      have HMN := Lib.hid hmn
      clear hm hmn
      by_cases hk : 28 + n + m ≤ l0.length
      case neg =>
        have HX : Hid (¬ rdOk l0) := fun hok => by have h1 := hok.1; have h2 := HMN.out; omega
        have HT := Lib.hid (rtake_no w g l0 (28 + n) m _ HS.out.rd (by omega))
        clear hk
        go_wp2_with fail
        refine HT.out.mono ?_
        rintro e w30 ⟨rfl, rfl⟩
        go_wp2_with fail
        exact prd_panic HS.out.pk HS.out.fl HS.out.be HS.out.ord rfl rfl (fun W' hW => HPAN.out HX.out _ _ ⟨rfl, hW⟩)
      have HT := Lib.hid (rtake_ok w g l0 (28 + n) m _ HS.out.rd hk hlen)
      have HXM : Hid (((l0.drop (28 + n)).take m).length = m) := by show _ = _; rw [List.length_take, List.length_drop]; omega
      clear hk
      go_wp2_with fail
      refine HT.out.mono ?_
      rintro e w31 ⟨⟨Ap, cp, rfl, hcp, hCp⟩, hr, ho⟩
      rw [show 28 + n + m = 236 from by have := HMN.out; omega] at hr
      have HV2 := Lib.hid (Kd.R_step HV.out (fun k hk hlt => by have hkg := (HVN.out k hk.symm).1; exact ho.block k hlt (by omega)))
      have HS2 := Lib.hid (HS.out.one ho hr)
      have HCP := Lib.hid hCp
      clear hr ho HT HS hCp HV
      have HS := HS2
      have HV := HV2
      clear HS2 HV2
      have HTR : Hid (Calls Tryd.prog 28 #[.slice Ap m cp, .string { data := #[0] }] w31 fun e w' => ∃ A' n' c', e = .returned (.slice A' n' c') ∧ (n' = 0 ↔ ∀ x ∈ (l0.drop (28 + n)).take m, x = 0) ∧ Below w31.heap.size w31 w') := by
        have hC0 : (Kd.int .u8).C w Ap ((l0.drop (28 + n)).take m).length ((l0.drop (28 + n)).take m) := by rw [HXM.out]; exact HCP.out
        have hC := Kd.C_below hC0 HS.out.be
        have := trim_calls Ap cp ((l0.drop (28 + n)).take m) w31 hC (by rw [HXM.out]; exact hcp)
        rwa [HXM.out] at this
      go_wp2_with fail
      refine HTR.out.mono ?_
      rintro e w32 ⟨At, nt, ct, rfl, hnt, hb6⟩
      have HV2 := Lib.hid (Kd.R_below HV.out hb6)
      have HS2 := Lib.hid (HS.out.grow hb6)
      have HNT := Lib.hid hnt
      clear hb6 HS HV hnt HTR e1 e2 e3
      have HS := HS2
      have HV := HV2
      clear HS2 HV2
      by_cases hz : nt = 0
      case neg =>
        have q0 : ((nt : Int) == 0) = false := beq_eq_false_iff_ne.2 (by omega)
        have q1 : (nt == 0) = false := beq_eq_false_iff_ne.2 hz
        have q2 : (nt = 0) = False := eq_false hz
        have HX : Hid (¬ rdOk l0) := fun hok => hz (HNT.out.2 (by have h1 := hok.2.2.2.2.1; have h2 := HMN.out; rw [HN.out, Int.toNat_natCast, show 208 - n = m from by omega] at h1; exact h1))
        clear hz
        go_wp2_with fail
        refine (must_no _).mono ?_
        rintro e w33 ⟨rfl, rfl⟩
        go_wp2_with fail
        exact prd_panic HS.out.pk HS.out.fl HS.out.be HS.out.ord rfl rfl (fun W' hW => HPAN.out HX.out _ _ ⟨rfl, hW⟩)
      subst hz
      have HZP := Lib.hid (HNT.out.1 rfl)
      clear HNT
      -- @cookie
      by_cases hk : 236 + 4 ≤ l0.length
      case neg =>
        have HX : Hid (¬ rdOk l0) := fun hok => by have := hok.1; omega
        have HT := Lib.hid (rlong_no w g l0 236 _ HS.out.rd HS.out.be HG.out (by omega) HBY.out hlen)
        clear hk
        go_wp2_with fail
        refine HT.out.mono ?_
        rintro e w34 ⟨rfl, ho⟩
        have HO := Lib.hid ho
        clear ho
        go_wp2_with fail
        have hso := HS.out
        have hoo := HO.out
        have hor := hso.ord
        exact prd_panic ((hoo.block bp (blk_lt hso.pk) (by omega)).trans hso.pk) ((hoo.block bf hso.fl.lt (by omega)).trans hso.fl) (hoo.below hso.be HG.out) hor rfl rfl (fun W' hW => HPAN.out HX.out _ _ ⟨rfl, hW⟩)
      have HT := Lib.hid (rlong_ok w g l0 236 _ HS.out.rd HS.out.be HG.out (by omega) HBY.out hlen)
      have HK := Lib.hid hk
      clear hk
      go_wp2_with fail
      refine HT.out.mono ?_
      rintro e w35 ⟨rfl, hr, ho⟩
      have HV2 := Lib.hid (Kd.R_step HV.out (fun k hk hlt => by have hkg := (HVN.out k hk.symm).1; exact ho.block k hlt (by omega)))
      have HS2 := Lib.hid (HS.out.one ho hr)
      clear hr ho HT HS HV
      have HS := HS2
      have HV := HV2
      clear HS2 HV2
      by_cases hq : lA l0 236 = 1669485411
      case neg =>
        have q0 : (lA l0 236 == 1669485411) = false := beq_eq_false_iff_ne.2 hq
        have HX : Hid (¬ rdOk l0) := fun hok => hq (hok.2.2.2.2.2.1)
        clear hq
        go_wp2_with fail
        refine (must_no _).mono ?_
        rintro e w36 ⟨rfl, rfl⟩
        go_wp2_with fail
        exact prd_panic HS.out.pk HS.out.fl HS.out.be HS.out.ord rfl rfl (fun W' hW => HPAN.out HX.out _ _ ⟨rfl, hW⟩)
      have q0 : (lA l0 236 == 1669485411) = true := beq_iff_eq.2 hq
      have HQ := Lib.hid hq
      clear hq
      go_wp2_with fail
      refine (must_yes _).mono ?_
      rintro e w37 ⟨rfl, rfl⟩
      clear q0
      have HQ6 := HQ
      clear HQ
      -- @options
      have hrd : RdAt w g l0 240 w37 := HS.out.rd
      obtain ⟨h240, Ao, co, hbo, hco, hCo⟩ := hrd
      obtain ⟨os, zo, hos⟩ : ∃ os zo, odR (l0.drop 240) = (os, zo) := ⟨_, _, rfl⟩
      have HDE : Hid (∀ no : Nat, no = (l0.drop 240).length → Calls Tryd.prog 29 #[.slice Ao no co] w37 fun e w' => ∃ v0_ : Value, e = .returned (.tuple #[v0_, .int .i64 zo]) ∧ Kd.S k39 39 w' w37.heap.size (fun _ => True) v0_ os ∧ Below w37.heap.size w37 w') := by
        rintro no rfl
        refine option_Decode.calls Ao co (l0.drop 240) os zo w37 (Kd.C_below hCo HS.out.be) hco ?_
        unfold option_Decode.f
        rw [if_pos ⟨fun x hx => HBY.out x (List.mem_of_mem_drop hx), by rw [List.length_drop]; omega⟩, hos]
      -- @mA
      have HSB : Hid (w.heap.size ≤ w37.heap.size) := HS.out.be.size
      obtain ⟨no, hno⟩ : ∃ no, no = (l0.drop 240).length := ⟨_, rfl⟩
      rw [← hno] at hbo
      have HDE2 := Lib.hid (HDE.out no hno)
      clear HDE hno
      have HDE := HDE2
      clear HDE2
      have y4 := hbo.cell
      have HOS := Lib.hid hos
      have HGL := Lib.hid HS.out.rd.lt
      clear hos hbo hco hCo
      -- @mB
      go_wp2_with fail
      -- @mC
      refine HDE.out.mono ?_
      rintro e w38 ⟨v9, rfl, hs9, hb9⟩
      obtain ⟨A9, c9, rfl⟩ := Kd.S_slice hs9
      have HV2 := Lib.hid (Kd.R_below HV.out hb9)
      have HVL : Hid (∀ k, (Value.slice A5 xh.length c5).ownBlock = some k → k < w37.heap.size) := fun k hk => Kd.R_lt HV.out k hk
      have HS2 := Lib.hid (HS.out.grow hb9)
      have HSO := Lib.hid (Kd.S_bound hs9)
      have HSOB : Hid (∀ k, (Value.slice A9 os.length c9).ownBlock = some k → True) := fun _ _ => trivial
      clear hs9 hb9 HS HV y4 HDE HSOB
      have HS := HS2
      have HV := HV2
      clear HS2 HV2
      -- @mD
      by_cases hq : zo = 0
      case neg =>
        have q0 : (zo == 0) = false := beq_eq_false_iff_ne.2 hq
        have HX : Hid (¬ rdOk l0) := fun hok => hq (by have h1 := hok.2.2.2.2.2.2; rw [HOS.out] at h1; exact h1)
        clear hq
        go_wp2_with fail
        refine (must_no _).mono ?_
        rintro e w39 ⟨rfl, rfl⟩
        go_wp2_with fail
        exact prd_panic HS.out.pk HS.out.fl HS.out.be HS.out.ord rfl rfl (fun W' hW => HPAN.out HX.out _ _ ⟨rfl, hW⟩)
      have q0 : (zo == 0) = true := beq_iff_eq.2 hq
      have HQ := Lib.hid hq
      clear hq
      go_wp2_with fail
      refine (must_yes _).mono ?_
      rintro e w40 ⟨rfl, rfl⟩
      clear q0
      -- @store
      have HQ7 := HQ
      clear HQ
      have y9 := (blk_cell HS.out.pk 9).trans rfl
      have z9 := blk_frozen HS.out.pk 9
      go_upto_region 18 with fail
      clear y9 z9
      have HV2 := Lib.hid (Kd.R_step (w1 := w40.setCell ⟨bp, 9, none⟩ (.slice A9 os.length c9)) HV.out (fun k hk hlt => by have hkg := (HVN.out k hk.symm).1; have hor := HS.out.ord; exact Below.heap_setCell _ _ _ k (show k ≠ bp by omega)))
      have HSO2 := Lib.hid (Kd.S_step (w1 := w40.setCell ⟨bp, 9, none⟩ (.slice A9 os.length c9)) HSO.out (fun k hk hlt => by have hor := HS.out.ord; have h1 := hk.2.1; have h2 := HGL.out; exact Below.heap_setCell _ _ _ k (show k ≠ bp by omega)))
      have HS2 := Lib.hid (HS.out.put (cs' := #[.int .i64 (bA l0 0), .int .u32 (lA l0 4), .int .i64 (sA l0 8), .int .i64 (sA l0 10), .int .u32 (lA l0 12), .int .u32 (lA l0 16), .int .u32 (lA l0 20), .int .u32 (lA l0 24), .slice A5 xh.length c5, .slice A9 os.length c9]) 9 (.slice A9 os.length c9) rfl)
      obtain ⟨w41, hw41⟩ : ∃ W, w40.setCell ⟨bp, 9, none⟩ (.slice A9 os.length c9) = W := ⟨_, rfl⟩
      rw [hw41] at HS2 HV2 HSO2
      try rw [hw41]
      clear hw41 HS HV HSO
      have HS := HS2
      have HV := HV2
      have HSO := HSO2
      clear HS2 HV2 HSO2
      -- @last
      have u0 := (blk_cell HS.out.pk 0).trans rfl
      have f0 := blk_frozen HS.out.pk 0
      have u1 := (blk_cell HS.out.pk 1).trans rfl
      have f1 := blk_frozen HS.out.pk 1
      have u2 := (blk_cell HS.out.pk 2).trans rfl
      have f2 := blk_frozen HS.out.pk 2
      have u3 := (blk_cell HS.out.pk 3).trans rfl
      have f3 := blk_frozen HS.out.pk 3
      have u4 := (blk_cell HS.out.pk 4).trans rfl
      have f4 := blk_frozen HS.out.pk 4
      have u5 := (blk_cell HS.out.pk 5).trans rfl
      have f5 := blk_frozen HS.out.pk 5
      have u6 := (blk_cell HS.out.pk 6).trans rfl
      have f6 := blk_frozen HS.out.pk 6
      have u7 := (blk_cell HS.out.pk 7).trans rfl
      have f7 := blk_frozen HS.out.pk 7
      have u8 := (blk_cell HS.out.pk 8).trans rfl
      have f8 := blk_frozen HS.out.pk 8
      have u9 := (blk_cell HS.out.pk 9).trans rfl
      have f9 := blk_frozen HS.out.pk 9
      have hfz : Boxed ((((((((((w41.setCell ⟨bp, 0, none⟩ (.int .i64 (bA l0 0))).setCell ⟨bp, 1, none⟩ (.int .u32 (lA l0 4))).setCell ⟨bp, 2, none⟩ (.int .i64 (sA l0 8))).setCell ⟨bp, 3, none⟩ (.int .i64 (sA l0 10))).setCell ⟨bp, 4, none⟩ (.int .u32 (lA l0 12))).setCell ⟨bp, 5, none⟩ (.int .u32 (lA l0 16))).setCell ⟨bp, 6, none⟩ (.int .u32 (lA l0 20))).setCell ⟨bp, 7, none⟩ (.int .u32 (lA l0 24))).setCell ⟨bp, 8, none⟩ (.slice A5 xh.length c5)).setCell ⟨bp, 9, none⟩ (.slice A9 os.length c9)) bf 4 (.bool false) := (pk10_far (by have := HS.out.ord; omega) (.int .i64 (bA l0 0)) (.int .u32 (lA l0 4)) (.int .i64 (sA l0 8)) (.int .i64 (sA l0 10)) (.int .u32 (lA l0 12)) (.int .u32 (lA l0 16)) (.int .u32 (lA l0 20)) (.int .u32 (lA l0 24)) (.slice A5 xh.length c5) (.slice A9 os.length c9)).trans HS.out.fl
      have HFZ := Lib.hid hfz
      have yf := hfz.cell
      have zf := hfz.frozen
      clear hfz
      go_wp2_with fail
      -- @fin
      clear yf zf u0 f0 u1 f1 u2 f2 u3 f3 u4 f4 u5 f5 u6 f6 u7 f7 u8 f8 u9 f9
      have hord := HS.out.ord
      have hpk := pk10 HS.out.pk (.int .i64 (bA l0 0)) (.int .u32 (lA l0 4)) (.int .i64 (sA l0 8)) (.int .i64 (sA l0 10)) (.int .u32 (lA l0 12)) (.int .u32 (lA l0 16)) (.int .u32 (lA l0 20)) (.int .u32 (lA l0 24)) (.slice A5 xh.length c5) (.slice A9 os.length c9)
      have hne : ∀ k, g < k → ((((((((((((w41.setCell ⟨bp, 0, none⟩ (.int .i64 (bA l0 0))).setCell ⟨bp, 1, none⟩ (.int .u32 (lA l0 4))).setCell ⟨bp, 2, none⟩ (.int .i64 (sA l0 8))).setCell ⟨bp, 3, none⟩ (.int .i64 (sA l0 10))).setCell ⟨bp, 4, none⟩ (.int .u32 (lA l0 12))).setCell ⟨bp, 5, none⟩ (.int .u32 (lA l0 16))).setCell ⟨bp, 6, none⟩ (.int .u32 (lA l0 20))).setCell ⟨bp, 7, none⟩ (.int .u32 (lA l0 24))).setCell ⟨bp, 8, none⟩ (.slice A5 xh.length c5)).setCell ⟨bp, 9, none⟩ (.slice A9 os.length c9))).setCell ⟨bf, 0, none⟩ (.bool true)).heap[k]? = w41.heap[k]? := fun k hk => (Below.heap_setCell _ _ _ k (show k ≠ bf by omega)).trans (pk10_far (by omega) (.int .i64 (bA l0 0)) (.int .u32 (lA l0 4)) (.int .i64 (sA l0 8)) (.int .i64 (sA l0 10)) (.int .u32 (lA l0 12)) (.int .u32 (lA l0 16)) (.int .u32 (lA l0 20)) (.int .u32 (lA l0 24)) (.slice A5 xh.length c5) (.slice A9 os.length c9))
      have hrd : rdP l0 = (bA l0 0, lA l0 4, sA l0 8, sA l0 10, lA l0 12, lA l0 16, lA l0 20, lA l0 24, xh, os, true) := by
        have hok : rdOk l0 := ⟨by have := HK.out; omega, HQ1.out, by rw [HN.out]; omega, HQ3.out, by rw [HN.out, Int.toNat_natCast, show 208 - n = m from by have := HMN.out; omega]; exact HZP.out, HQ6.out, by rw [HOS.out]; exact HQ7.out⟩
        unfold rdP
        rw [if_pos hok, HN.out, Int.toNat_natCast, HXH.out, HOS.out]
      have hres := HRES.out
      rw [hrd] at hres
      simp only [Prod.mk.injEq] at hres
      obtain ⟨rfl, rfl, rfl, rfl, rfl, rfl, rfl, rfl, rfl, rfl, rfl⟩ := hres
      refine prd_ret rfl rfl ((Below.heap_setCell _ _ _ bp (show bp ≠ bf by omega)).trans hpk) (HFZ.out.set _) ?_
      refine ⟨_, _, rfl, ?_, ?_, below_alloc (below_set (pk10_below HS.out.be hord.1 _ _ _ _ _ _ _ _ _ _) (by omega)) _⟩
      · exact Kd.R_mono (Kd.R_lower (Kd.R_alloc (Kd.R_step HV.out (fun k hk hlt => hne k (HVN.out k hk.symm).1)) _) HVB.out) (fun _ _ => trivial)
      · refine Kd.S_mono (Kd.S_lower (Kd.S_alloc (Kd.S_step HSO.out (fun k hk hlt => hne k (by have := hk.2.1; have := HGL.out; omega))) _) HSB.out) (fun k hk e => ?_)
        have h1 := HVL.out k e.symm
        have h2 := hk.2.1
        omega
end Go.Proofs.YtmbfdmceameghaaDoor
end

section
namespace Go.Proofs.YtmbfdmceameghaaDoor
open Go.RowKit Go.Proofs.YtmbfdmceameghaaDoor.Pr Go.Proofs.YtmbfdmceameghaaDoorW.PrintWords Go.Proofs.YtmbfdmceameghaaDoorW.PrintLast Go.Proofs.YtmbfdmceameghaaDoorW.PrintMore
attribute [local go_sem] max2_int min2_int max_two min_two max_three min_three max_four min_four
set_option linter.unusedVariables false
set_option linter.unusedSimpArgs false

namespace PQ
def bytesL (l : List Int) : Prop := ∀ x ∈ l, 0 ≤ x ∧ x ≤ 255
theorem encR_of {l : List OptP} (ok : ∀ x ∈ l, PD.okOpt x) (h : (PD.enc l).length + 1 ≤ 1024) : PO.encR l = (PD.enc l ++ [255], 0) := by
  unfold PO.encR
  rw [if_pos (show ∀ x ∈ l, PO.okOpt x from ok), if_neg (by have : (PO.enc l).length = (PD.enc l).length := rfl; omega)]
  rfl

def hwOf (l : List Int) : List Int := (l.drop 28).take (bA l 2).toNat
theorem hw_len {l : List Int} (hl : 240 ≤ l.length) (h : bA l 2 ≤ 16) : (hwOf l).length = (bA l 2).toNat := by unfold hwOf; rw [List.length_take, List.length_drop]; omega
theorem okPk_of {l : List Int} (hb : bytesL l) (hl : 240 ≤ l.length) (hn : bA l 2 ≤ 16) (os : List OptP) (ho : (PO.encR os).2 = 0) : PP.okPk (bA l 0) (sA l 8) (sA l 10) (hwOf l) os ↔ ((bA l 0 = 1 ∨ bA l 0 = 2) ∧ 1 ≤ bA l 2) := by
  have h2 := bA_in hb 2
  have hw := hw_len hl hn
  have h8 := sA_in hb 8
  have h10 := sA_in hb 10
  unfold PP.okPk
  constructor
  · rintro ⟨h1, h3, _⟩
    exact ⟨h1, by omega⟩
  · rintro ⟨h1, h3⟩
    exact ⟨h1, ⟨by omega, by omega⟩, h8, h10, ho⟩
theorem encR_nil : (PO.encR ([] : List OptP)).2 = 0 := by
  rw [encR_of (by simp) (by simp [PD.enc])]
abbrev PkQ := Int × Int × Int × Int × Int × Int × Int × Int × List Int × List OptP × Int
def pdR (l : List Int) : PkQ := if rdOk l ∧ (bA l 0 = 1 ∨ bA l 0 = 2) ∧ 1 ≤ bA l 2 then (bA l 0, lA l 4, sA l 8, sA l 10, lA l 12, lA l 16, lA l 20, lA l 24, hwOf l, (odR (l.drop 240)).1, 0) else (0, 0, 0, 0, 0, 0, 0, 0, [], [], 2)
end PQ
def packet_Decode.f (l0 : List Int) : Option PQ.PkQ := if (∀ x ∈ l0, 0 ≤ x ∧ x ≤ 255) ∧ l0.length < 1099511627776 then some (PQ.pdR l0) else none
theorem pdec_ret {R : Ending → World → Prop} {tmps : Array Value} {W : World} {br : Nat} {a0 a1 a2 a3 a4 a5 a6 a7 z : Int} {A8 A9 : Option Addr} {n8 c8 n9 c9 : Nat} (h2 : tmps[2]? = some (.pointer (some ⟨br, 0, none⟩))) (h3 : tmps[3]? = some (.int .i64 z))
    (h : W.heap[br]? = some (.cells #[.int .i64 a0, .int .u32 a1, .int .i64 a2, .int .i64 a3, .int .u32 a4, .int .u32 a5, .int .u32 a6, .int .u32 a7, .slice A8 n8 c8, .slice A9 n9 c9] 28 (0, 0)))
    (hR : R (.returned (.tuple #[.agg #[.int .i64 a0, .int .u32 a1, .int .i64 a2, .int .i64 a3, .int .u32 a4, .int .u32 a5, .int .u32 a6, .int .u32 a7, .slice A8 n8 c8, .slice A9 n9 c9], .int .i64 z])) W) :
    bodyPost Tryd.prog Tryd.f6 R .ret { tmps := tmps, defers := [] } W := by
  have y0 := (blk_cell h 0).trans rfl
  have y1 := (blk_cell h 1).trans rfl
  have y2 := (blk_cell h 2).trans rfl
  have y3 := (blk_cell h 3).trans rfl
  have y4 := (blk_cell h 4).trans rfl
  have y5 := (blk_cell h 5).trans rfl
  have y6 := (blk_cell h 6).trans rfl
  have y7 := (blk_cell h 7).trans rfl
  have y8 := (blk_cell h 8).trans rfl
  have y9 := (blk_cell h 9).trans rfl
  refine bodyPost_ret (v := .tuple #[.agg #[.int .i64 a0, .int .u32 a1, .int .i64 a2, .int .i64 a3, .int .u32 a4, .int .u32 a5, .int .u32 a6, .int .u32 a7, .slice A8 n8 c8, .slice A9 n9 c9], .int .i64 z]) ?_ rfl hR
  simp [results, Tryd.results6, go_sem, h2, h3, y0, y1, y2, y3, y4, y5, y6, y7, y8, y9]
set_option maxHeartbeats 8000000 in
set_option maxRecDepth 100000 in
theorem packet_Decode.calls (A0 : Option Addr) (c0 : Nat) (l0 : List Int) (r1 r2 r3 r4 r5 r6 r7 r8 : Int) (r9 : List Int) (r10 : List OptP) (r11 : Int) (w : World) (hr0 : Kd.C (Kd.int .u8) w A0 l0.length l0) (hc0 : l0.length ≤ c0) (h : packet_Decode.f l0 = some (r1, r2, r3, r4, r5, r6, r7, r8, r9, r10, r11)) :
    Calls Tryd.prog 6 #[.slice A0 l0.length c0] w fun e w' => ∃ v8_ v9_ : Value, e = .returned (.tuple #[.agg #[.int .i64 r1, .int .u32 r2, .int .i64 r3, .int .i64 r4, .int .u32 r5, .int .u32 r6, .int .u32 r7, .int .u32 r8, v8_, v9_], .int .i64 r11]) ∧ Kd.R (Kd.int .u8) 5 w' w.heap.size (fun _ => True) v8_ r9 ∧ Kd.S k39 39 w' w.heap.size (fun k_ => some k_ ≠ (v8_ : Value).ownBlock) v9_ r10 ∧ Below w.heap.size w w' := by
  unfold packet_Decode.f at h
  split at h
  case isFalse => cases h
  rename_i hcond
  have h := Option.some.inj h
  have bad : ∀ {e : Ending} {w' : World}, e = .returned (.tuple #[.agg pkNilC, .int .i64 2]) ∧ Below w.heap.size w w' → ¬ (rdOk l0 ∧ (bA l0 0 = 1 ∨ bA l0 0 = 2) ∧ 1 ≤ bA l0 2) → ∃ v8_ v9_ : Value, e = .returned (.tuple #[.agg #[.int .i64 r1, .int .u32 r2, .int .i64 r3, .int .i64 r4, .int .u32 r5, .int .u32 r6, .int .u32 r7, .int .u32 r8, v8_, v9_], .int .i64 r11]) ∧ Kd.R (Kd.int .u8) 5 w' w.heap.size (fun _ => True) v8_ r9 ∧ Kd.S k39 39 w' w.heap.size (fun k_ => some k_ ≠ (v8_ : Value).ownBlock) v9_ r10 ∧ Below w.heap.size w w' := by
    rintro e w' ⟨he, hb⟩ hz
    have h2 := h
    unfold PQ.pdR at h2
    rw [if_neg hz] at h2
    simp only [Prod.mk.injEq] at h2
    obtain ⟨rfl, rfl, rfl, rfl, rfl, rfl, rfl, rfl, rfl, rfl, rfl⟩ := h2
    exact ⟨_, _, he, Kd.R_nil _ _ _ _ _, Kd.S_nil _ _ _ _ _, hb⟩
  obtain ⟨s1, s2, s3, s4, s5, s6, s7, s8, s9, s10, s11, hs⟩ : ∃ s1 s2 s3 s4 s5 s6 s7 s8 s9 s10 s11, rdP l0 = (s1, s2, s3, s4, s5, s6, s7, s8, s9, s10, s11) := ⟨_, _, _, _, _, _, _, _, _, _, _, rfl⟩
  have hrf : packet_read.f l0 = some (s1, s2, s3, s4, s5, s6, s7, s8, s9, s10, s11) := (if_pos hcond).trans (congrArg some hs)
  have HRD := Lib.hid (fun W (hW : Below w.heap.size w W) => packet_read.calls A0 c0 l0 s1 s2 s3 s4 s5 s6 s7 s8 s9 s10 s11 W (Kd.C_below hr0 hW) hc0 hrf)
  have BAD := Lib.hid (fun e w' => @bad e w')
  have HS := Lib.hid hs
  have HC := Lib.hid hcond
  have HRES := Lib.hid h
  clear hr0 hrf bad hs hcond h
  go_enter Tryd.func6, Tryd.ntmps6
  go_upto_region 1 with fail
  obtain ⟨bz, hbz⟩ : ∃ b, w.heap.size = b := ⟨_, rfl⟩
  obtain ⟨w1, hw1⟩ : ∃ W, w.alloc (.cells pkNilC 28) = W := ⟨_, rfl⟩
  have HZ1 : Hid (w1.heap[bz]? = some (.cells pkNilC 28 (0, 0))) := by show _ = _; rw [← hw1, ← hbz]; exact blk_new _ _
  have HB1 : Hid (Below w.heap.size w w1) := by show Below _ _ _; rw [← hw1]; exact below_alloc (Below.refl _ _) _
  have HBZ : Hid (w.heap.size ≤ bz ∧ bz < w1.heap.size) := ⟨by omega, blk_lt HZ1.out⟩
  try rw [hbz]
  try change Code.wp _ _ _ _ (w.alloc (.cells pkNilC 28))
  rw [hw1]
  clear hw1 hbz
  go_wp2_with fail
  refine (HRD.out _ HB1.out).mono ?_
  rintro e w2 ⟨v8, v9, rfl, hv8, hv9, hb2⟩
  obtain ⟨A5, c5, rfl⟩ := Kd.R_slice hv8
  obtain ⟨A9, c9, rfl⟩ := Kd.S_slice hv9
  obtain ⟨n5, hn5⟩ : ∃ n, s9.length = n := ⟨_, rfl⟩
  obtain ⟨n9, hn9⟩ : ∃ n, s10.length = n := ⟨_, rfl⟩
  rw [hn5] at hv8 hv9
  rw [hn9] at hv9
  try rw [hn5]
  try rw [hn9]
  have HN5 := Lib.hid hn5
  have HN9 := Lib.hid hn9
  clear hn5 hn9
  have HZ2 : Hid (_ = some _) := (hb2.block bz (blk_lt HZ1.out)).trans HZ1.out
  have HB2 := Lib.hid (HB1.out.trans (hb2.mono HB1.out.size))
  have HSZ : Hid (w1.heap.size ≤ w2.heap.size) := hb2.size
  have HV8 := Lib.hid hv8
  have HV9 := Lib.hid hv9
  clear hb2 hv8 hv9 HZ1 HB1 HRD
  go_upto_region 2 with fail
  -- @two
  obtain ⟨bp, hbp⟩ : ∃ b, w2.heap.size = b := ⟨_, rfl⟩
  rw [hbp]
  obtain ⟨w3, hw3⟩ : ∃ W, w2.alloc (.cells #[.int .i64 s1, .int .u32 s2, .int .i64 s3, .int .i64 s4, .int .u32 s5, .int .u32 s6, .int .u32 s7, .int .u32 s8, .slice A5 n5 c5, .slice A9 n9 c9] 28) = W := ⟨_, rfl⟩
  have HP3 : Hid (w3.heap[bp]? = some (.cells #[.int .i64 s1, .int .u32 s2, .int .i64 s3, .int .i64 s4, .int .u32 s5, .int .u32 s6, .int .u32 s7, .int .u32 s8, .slice A5 n5 c5, .slice A9 n9 c9] 28 (0, 0))) := by show _ = _; rw [← hw3, ← hbp]; exact blk_new _ _
  have HK3 : Hid (∀ k, k < w2.heap.size → w3.heap[k]? = w2.heap[k]?) := fun k hk => by rw [← hw3]; exact Below.heap_alloc _ _ _ (by omega)
  have HB3 : Hid (Below w.heap.size w w3) := by show Below _ _ _; rw [← hw3]; exact below_alloc HB2.out _
  have HBP : Hid (bp = w2.heap.size ∧ bp < w3.heap.size) := ⟨hbp.symm, blk_lt HP3.out⟩
  rw [hw3]
  clear hw3 hbp
  -- @twob
  have y0 := (blk_cell HP3.out 0).trans rfl
  have y1 := (blk_cell HP3.out 1).trans rfl
  have y2 := (blk_cell HP3.out 2).trans rfl
  have y3 := (blk_cell HP3.out 3).trans rfl
  have y4 := (blk_cell HP3.out 4).trans rfl
  have y5 := (blk_cell HP3.out 5).trans rfl
  have y6 := (blk_cell HP3.out 6).trans rfl
  have y7 := (blk_cell HP3.out 7).trans rfl
  have y8 := (blk_cell HP3.out 8).trans rfl
  have y9 := (blk_cell HP3.out 9).trans rfl
  go_upto_region 4 with fail
  -- @three
  clear y0 y1 y2 y3 y4 y5 y6 y7 y8 y9
  obtain ⟨bh, hbh⟩ : ∃ b, w3.heap.size = b := ⟨_, rfl⟩
  rw [hbh]
  obtain ⟨w5, hw5⟩ : ∃ W, w3.alloc (.cells #[.int .i64 s1, .int .u32 s2, .int .i64 s3, .int .i64 s4, .int .u32 s5, .int .u32 s6, .int .u32 s7, .int .u32 s8, .slice A5 n5 c5, .slice none 0 0] 28) = W := ⟨_, rfl⟩
  have HH5 : Hid (w5.heap[bh]? = some (.cells #[.int .i64 s1, .int .u32 s2, .int .i64 s3, .int .i64 s4, .int .u32 s5, .int .u32 s6, .int .u32 s7, .int .u32 s8, .slice A5 n5 c5, .slice none 0 0] 28 (0, 0))) := by show _ = _; rw [← hw5, ← hbh]; exact blk_new _ _
  have HK5 : Hid (∀ k, k < w3.heap.size → w5.heap[k]? = w3.heap[k]?) := fun k hk => by rw [← hw5]; exact Below.heap_alloc _ _ _ (by omega)
  have HB5 : Hid (Below w.heap.size w w5) := by show Below _ _ _; rw [← hw5]; exact below_alloc HB3.out _
  have HS5 : Hid (w3.heap.size ≤ w5.heap.size) := by show _ ≤ _; rw [← hw5]; simp
  rw [hw5]
  clear hw5 hbh
  -- @four
  have HP5 : Hid (w5.heap[bp]? = some _) := (HK5.out bp (blk_lt HP3.out)).trans HP3.out
  have HK25 : Hid (∀ k, k < w2.heap.size → w5.heap[k]? = w2.heap[k]?) := fun k hk => (HK5.out k (by have := HBP.out; omega)).trans (HK3.out k hk)
  have HZ5 : Hid (w5.heap[bz]? = some _) := (HK25.out bz (blk_lt HZ2.out)).trans HZ2.out
  cases s11 with
  | false =>
    have u0 := (blk_cell HZ5.out 0).trans rfl
    have u1 := (blk_cell HZ5.out 1).trans rfl
    have u2 := (blk_cell HZ5.out 2).trans rfl
    have u3 := (blk_cell HZ5.out 3).trans rfl
    have u4 := (blk_cell HZ5.out 4).trans rfl
    have u5 := (blk_cell HZ5.out 5).trans rfl
    have u6 := (blk_cell HZ5.out 6).trans rfl
    have u7 := (blk_cell HZ5.out 7).trans rfl
    have u8 := (blk_cell HZ5.out 8).trans rfl
    have u9 := (blk_cell HZ5.out 9).trans rfl
    have f0 := blk_frozen HZ5.out 0
    have f1 := blk_frozen HZ5.out 1
    have f2 := blk_frozen HZ5.out 2
    have f3 := blk_frozen HZ5.out 3
    have f4 := blk_frozen HZ5.out 4
    have f5 := blk_frozen HZ5.out 5
    have f6 := blk_frozen HZ5.out 6
    have f7 := blk_frozen HZ5.out 7
    have f8 := blk_frozen HZ5.out 8
    have f9 := blk_frozen HZ5.out 9
    go_wp2_with fail
    -- @bad1
    refine pdec_ret rfl rfl (pk10 HZ5.out _ _ _ _ _ _ _ _ _ _) (BAD.out _ _ ⟨rfl, pk10_below HB5.out (by have := HBZ.out; omega) _ _ _ _ _ _ _ _ _ _⟩ (fun hz => ?_))
    have h2 := HS.out
    unfold rdP at h2
    rw [if_pos hz.1] at h2
    simp at h2
  | true =>
    have HOK : Hid (rdOk l0) := by
      show rdOk l0
      have h2 := HS.out
      unfold rdP at h2
      split at h2
      · assumption
      · simp at h2
    obtain ⟨rt, hrt⟩ : ∃ rt, rt = decide (PP.okPk s1 s3 s4 s9 []) := ⟨_, rfl⟩
    have HRT := Lib.hid hrt
    have HRI : Hid (Calls Tryd.prog 12 #[.agg #[.int .i64 s1, .int .u32 s2, .int .i64 s3, .int .i64 s4, .int .u32 s5, .int .u32 s6, .int .u32 s7, .int .u32 s8, .slice A5 n5 c5, .slice none 0 0]] w5 fun e w' => e = .returned (.bool rt) ∧ Below w5.heap.size w5 w') := by
      have hc8 : (Kd.int .u8).C w5 A5 s9.length s9 ∧ s9.length ≤ c5 := by
        have h0 := Kd.R_step (w1 := w5) HV8.out (fun k hk hlt => HK25.out k hlt)
        rw [← HN5.out] at h0
        exact ⟨(Kd.R_reads' h0).2.2, (Kd.R_reads' h0).2.1⟩
      have := packet_Right.calls 2010 s1 s2 s3 s4 s5 s6 s7 s8 A5 c5 s9 none 0 ([] : List OptP) rt w5 hc8.1 hc8.2 (Kd.C_nil _ _) (Nat.le_refl _) (by rw [hrt]; exact PP.right_eq s1 s2 s3 s4 s5 s6 s7 s8 s9 [] ⟨by simp, by simp⟩ 2010 (Nat.le_refl _))
      rw [HN5.out] at this
      exact this
    clear hrt
    have y0 := (blk_cell HH5.out 0).trans rfl
    have y1 := (blk_cell HH5.out 1).trans rfl
    have y2 := (blk_cell HH5.out 2).trans rfl
    have y3 := (blk_cell HH5.out 3).trans rfl
    have y4 := (blk_cell HH5.out 4).trans rfl
    have y5 := (blk_cell HH5.out 5).trans rfl
    have y6 := (blk_cell HH5.out 6).trans rfl
    have y7 := (blk_cell HH5.out 7).trans rfl
    have y8 := (blk_cell HH5.out 8).trans rfl
    have y9 := (blk_cell HH5.out 9).trans rfl
    go_wp2_with fail
    -- @right
    refine HRI.out.mono ?_
    rintro e w6 ⟨rfl, hb6⟩
    clear HRI
    clear y0 y1 y2 y3 y4 y5 y6 y7 y8 y9
    have HP6 : Hid (_ = some _) := (hb6.block bp (blk_lt HP5.out)).trans HP5.out
    have HZ6 : Hid (_ = some _) := (hb6.block bz (blk_lt HZ5.out)).trans HZ5.out
    have HB6 := Lib.hid (HB5.out.trans (hb6.mono HB5.out.size))
    have HK6 : Hid (∀ k, k < w2.heap.size → w6.heap[k]? = w2.heap[k]?) := fun k hk => (hb6.block k (by have := HBP.out; have := HS5.out; omega)).trans (HK25.out k hk)
    clear hb6
    have u0 := (blk_cell HZ6.out 0).trans rfl
    have u1 := (blk_cell HZ6.out 1).trans rfl
    have u2 := (blk_cell HZ6.out 2).trans rfl
    have u3 := (blk_cell HZ6.out 3).trans rfl
    have u4 := (blk_cell HZ6.out 4).trans rfl
    have u5 := (blk_cell HZ6.out 5).trans rfl
    have u6 := (blk_cell HZ6.out 6).trans rfl
    have u7 := (blk_cell HZ6.out 7).trans rfl
    have u8 := (blk_cell HZ6.out 8).trans rfl
    have u9 := (blk_cell HZ6.out 9).trans rfl
    have f0 := blk_frozen HZ6.out 0
    have f1 := blk_frozen HZ6.out 1
    have f2 := blk_frozen HZ6.out 2
    have f3 := blk_frozen HZ6.out 3
    have f4 := blk_frozen HZ6.out 4
    have f5 := blk_frozen HZ6.out 5
    have f6 := blk_frozen HZ6.out 6
    have f7 := blk_frozen HZ6.out 7
    have f8 := blk_frozen HZ6.out 8
    have f9 := blk_frozen HZ6.out 9
    have HOKI : Hid (rt = true ↔ ((bA l0 0 = 1 ∨ bA l0 0 = 2) ∧ 1 ≤ bA l0 2)) := by
      show _ ↔ _
      have h2 := HS.out
      unfold rdP at h2
      rw [if_pos HOK.out] at h2
      simp only [Prod.mk.injEq] at h2
      have e9 : PQ.hwOf l0 = s9 := h2.2.2.2.2.2.2.2.2.1
      rw [HRT.out, decide_eq_true_iff, ← h2.1, ← h2.2.2.1, ← h2.2.2.2.1, ← e9]
      exact PQ.okPk_of HC.out.1 HOK.out.1 HOK.out.2.2.1 [] PQ.encR_nil
    cases rt with
    | false =>
      go_wp2_with fail
      -- @bad2
      exact pdec_ret rfl rfl (pk10 HZ6.out _ _ _ _ _ _ _ _ _ _) (BAD.out _ _ ⟨rfl, pk10_below HB6.out (by have := HBZ.out; omega) _ _ _ _ _ _ _ _ _ _⟩ (fun hz => absurd (HOKI.out.2 hz.2) (by decide)))
    | true =>
      have HOKB := Lib.hid (HOKI.out.1 rfl)
      have HVT := Lib.hid (Kd.R_tight rfl HV8.out)
      have HVB : Hid (∀ k, (Value.slice A5 n5 c5).ownBlock = some k → w1.heap.size ≤ k) := fun k hk => Kd.R_base HV8.out k hk
      have HSO := Lib.hid (Kd.S_bound HV9.out)
      have y0 := (blk_cell HP6.out 0).trans rfl
      have y1 := (blk_cell HP6.out 1).trans rfl
      have y2 := (blk_cell HP6.out 2).trans rfl
      have y3 := (blk_cell HP6.out 3).trans rfl
      have y4 := (blk_cell HP6.out 4).trans rfl
      have y5 := (blk_cell HP6.out 5).trans rfl
      have y6 := (blk_cell HP6.out 6).trans rfl
      have y7 := (blk_cell HP6.out 7).trans rfl
      have y8 := (blk_cell HP6.out 8).trans rfl
      have y9 := (blk_cell HP6.out 9).trans rfl
      go_wp2_with fail
      -- @good
      refine pdec_ret rfl rfl (pk10 HZ6.out _ _ _ _ _ _ _ _ _ _) ?_
      have hr := HRES.out
      have h2 := HS.out
      unfold PQ.pdR at hr
      unfold rdP at h2
      rw [if_pos ⟨HOK.out, HOKB.out⟩] at hr
      rw [if_pos HOK.out] at h2
      simp only [Prod.mk.injEq] at hr h2
      obtain ⟨rfl, rfl, rfl, rfl, rfl, rfl, rfl, rfl, rfl, rfl, rfl⟩ := hr
      obtain ⟨rfl, rfl, rfl, rfl, rfl, rfl, rfl, rfl, rfl, rfl, _⟩ := h2
      have hbz := HBZ.out
      have hsz := HSZ.out
      have hend : ∀ k, w1.heap.size ≤ k → k < w2.heap.size → _ = w2.heap[k]? := fun k hk hlt => (pk10_far (W := w6) (show k ≠ bz by omega) (.int .i64 (bA l0 0)) (.int .u32 (lA l0 4)) (.int .i64 (sA l0 8)) (.int .i64 (sA l0 10)) (.int .u32 (lA l0 12)) (.int .u32 (lA l0 16)) (.int .u32 (lA l0 20)) (.int .u32 (lA l0 24)) (.slice A5 n5 c5) (.slice A9 n9 c9)).trans (HK6.out k hlt)
      refine ⟨_, _, rfl, ?_, ?_, pk10_below HB6.out (by omega) _ _ _ _ _ _ _ _ _ _⟩
      · exact Kd.R_mono (Kd.R_lower (Kd.R_step HVT.out (fun k hk hlt => hend k (HVB.out k hk.symm) hlt)) (by omega)) (fun _ _ => trivial)
      · exact Kd.S_mono (Kd.S_lower (Kd.S_step HSO.out (fun k hk hlt => hend k hk.2.1 hlt)) (by omega)) (fun k hk => hk.1)
end Go.Proofs.YtmbfdmceameghaaDoor
end

section
namespace Go.Proofs.YtmbfdmceameghaaDoor.PQ
open Go.RowKit Go.Proofs.YtmbfdmceameghaaDoor Go.Proofs.YtmbfdmceameghaaDoor.Pr Go.Proofs.YtmbfdmceameghaaDoorW.PrintWords Go.Proofs.YtmbfdmceameghaaDoorW.PrintLast Go.Proofs.YtmbfdmceameghaaDoorW.PrintMore
set_option linter.unusedVariables false
set_option linter.unusedSimpArgs false

theorem wrapQ {x : Int} (h0 : 0 ≤ x) (h1 : x < 9223372036854775808) : wrap64 x = x := by unfold wrap64; omega
theorem str_inj {a b : List Int} (ha : bytesL a) (hb : bytesL b) : ((strOfNums a).toList == (strOfNums b).toList) = decide (a = b) := by
  have key : ∀ (a b : List Int), bytesL a → bytesL b → (a.map fun n => UInt8.ofNat n.toNat) = (b.map fun n => UInt8.ofNat n.toNat) → a = b := by
    intro a
    induction a with
    | nil => intro b _ _ h; cases b with | nil => rfl | cons => simp at h
    | cons x a ih =>
      intro b ha hb h
      cases b with
      | nil => simp at h
      | cons y b =>
        simp only [List.map_cons, List.cons.injEq] at h
        have h1 := ha x (by simp)
        have h2 := hb y (by simp)
        have e : x = y := by
          have := congrArg UInt8.toNat h.1
          simp only [UInt8.toNat_ofNat'] at this
          omega
        rw [e, ih b (fun z hz => ha z (by simp [hz])) (fun z hz => hb z (by simp [hz])) h.2]
  have hl : ∀ xs : List Int, (strOfNums xs).toList = xs.map fun n => UInt8.ofNat n.toNat := fun xs => by
    rw [← strOfNums_data]
    first
      | rfl
      | exact ByteArray.toList_eq _
      | simp [ByteArray.toList_data]
  rw [hl, hl, Bool.eq_iff_iff, beq_iff_eq, decide_eq_true_iff]
  exact ⟨fun h => key a b ha hb h, fun h => by rw [h]⟩

/-! ### options -/
/-! ### the head -/
def headOf (l : List Int) : List Int := pkHead (bA l 0) (lA l 4) (sA l 8) (sA l 10) (lA l 12) (lA l 16) (lA l 20) (lA l 24) (hwOf l)
theorem drop_four {l : List Int} {j : Nat} (h : j + 4 ≤ l.length) : (l.drop j).take 4 = [bA l j, bA l (j + 1), bA l (j + 2), bA l (j + 3)] := by
  rw [bA_of (show j < l.length by omega), bA_of (show j + 1 < l.length by omega), bA_of (show j + 2 < l.length by omega), bA_of (show j + 3 < l.length by omega),
    List.drop_eq_getElem_cons (show j < l.length by omega), List.drop_eq_getElem_cons (show j + 1 < l.length by omega), List.drop_eq_getElem_cons (show j + 2 < l.length by omega), List.drop_eq_getElem_cons (show j + 3 < l.length by omega)]
  rfl
theorem drop_two {l : List Int} {j : Nat} (h : j + 2 ≤ l.length) : (l.drop j).take 2 = [bA l j, bA l (j + 1)] := by
  rw [bA_of (show j < l.length by omega), bA_of (show j + 1 < l.length by omega), List.drop_eq_getElem_cons (show j < l.length by omega), List.drop_eq_getElem_cons (show j + 1 < l.length by omega)]
  rfl
theorem pk2_s {l : List Int} (hb : bytesL l) (j : Nat) : pk2 (sA l j) = [bA l j, bA l (j + 1)] := by
  have h1 := bA_in hb j
  have h2 := bA_in hb (j + 1)
  unfold pk2 sA
  have e1 : (bA l j * 256 + bA l (j + 1)) / 256 % 256 = bA l j := by omega
  have e2 : (bA l j * 256 + bA l (j + 1)) % 256 = bA l (j + 1) := by omega
  rw [e1, e2]
theorem pk4_l {l : List Int} (hb : bytesL l) (j : Nat) : pk4 (lA l j) = [bA l j, bA l (j + 1), bA l (j + 2), bA l (j + 3)] := by
  have h1 := sA_in hb j
  have h2 := sA_in hb (j + 2)
  have e1 : (sA l j * 65536 + sA l (j + 2)) / 65536 = sA l j := by omega
  have e2 : (sA l j * 65536 + sA l (j + 2)) % 65536 = sA l (j + 2) := by omega
  unfold pk4 lA
  rw [e1, e2, pk2_s hb, pk2_s hb]
  rfl
theorem take_add (l : List Int) (j k : Nat) : l.take (j + k) = l.take j ++ (l.drop j).take k := by
  rw [List.take_add]
def padOf (l : List Int) : List Int := (l.drop (28 + (bA l 2).toNat)).take (208 - (bA l 2).toNat)
theorem take_240 {l : List Int} (hl : 240 ≤ l.length) (hn : bA l 2 ≤ 16) (hn0 : 0 ≤ bA l 2) :
    l.take 240 = [bA l 0, bA l 1, bA l 2, bA l 3] ++ [bA l 4, bA l 5, bA l 6, bA l 7] ++ [bA l 8, bA l 9] ++ [bA l 10, bA l 11] ++ ([bA l 12, bA l 13, bA l 14, bA l 15] ++ [bA l 16, bA l 17, bA l 18, bA l 19] ++ [bA l 20, bA l 21, bA l 22, bA l 23] ++ [bA l 24, bA l 25, bA l 26, bA l 27]) ++ hwOf l ++ padOf l ++ [bA l 236, bA l 237, bA l 238, bA l 239] := by
  obtain ⟨n, hn1⟩ : ∃ n : Nat, bA l 2 = n := ⟨(bA l 2).toNat, by omega⟩
  unfold hwOf padOf
  rw [show (240 : Nat) = 28 + (bA l 2).toNat + (208 - (bA l 2).toNat) + 4 from by omega, take_add, take_add, take_add]
  rw [show 28 + (bA l 2).toNat + (208 - (bA l 2).toNat) = 236 from by omega, drop_four (j := 236) (by omega)]
  congr 2
  congr 1
  rw [show (28 : Nat) = 4 + 4 + 2 + 2 + 4 + 4 + 4 + 4 from rfl, take_add, take_add, take_add, take_add, take_add, take_add, take_add]
  rw [show l.take 4 = (l.drop 0).take 4 from rfl, drop_four (j := 0) (by omega), drop_four (j := 4) (by omega), drop_two (j := 4 + 4) (by omega), drop_two (j := 4 + 4 + 2) (by omega), drop_four (j := 4 + 4 + 2 + 2) (by omega), drop_four (j := 4 + 4 + 2 + 2 + 4) (by omega), drop_four (j := 4 + 4 + 2 + 2 + 4 + 4) (by omega), drop_four (j := 4 + 4 + 2 + 2 + 4 + 4 + 4) (by omega)]
  simp
theorem head_of {l : List Int} (hb : bytesL l) (hl : 240 ≤ l.length) (hn : bA l 2 ≤ 16) :
    headOf l = [bA l 0, 1, bA l 2, 0] ++ [bA l 4, bA l 5, bA l 6, bA l 7] ++ [bA l 8, bA l 9] ++ [bA l 10, bA l 11] ++ ([bA l 12, bA l 13, bA l 14, bA l 15] ++ [bA l 16, bA l 17, bA l 18, bA l 19] ++ [bA l 20, bA l 21, bA l 22, bA l 23] ++ [bA l 24, bA l 25, bA l 26, bA l 27]) ++ hwOf l ++ List.replicate (208 - (bA l 2).toNat) 0 ++ [99, 130, 83, 99] := by
  have h0 := bA_in hb 0
  have h2 := bA_in hb 2
  have hw := hw_len hl hn
  have e0 : bA l 0 % 256 = bA l 0 := by omega
  have e2 : ((hwOf l).length : Int) % 256 = bA l 2 := by rw [hw]; omega
  unfold headOf pkHead pkB pkA pkC
  simp only [List.take_succ_cons, List.take_zero, List.map_cons, List.map_nil, List.flatten_cons, List.flatten_nil, List.append_nil]
  rw [pk4_l hb, pk4_l hb, pk4_l hb, pk4_l hb, pk4_l hb, pk2_s hb, pk2_s hb, e0, e2, hw]
  first
    | rfl
    | simp [List.append_assoc, show ∀ n : Nat, (16 - n) + 192 = 208 - n ∨ True from fun _ => .inr trivial]
    | skip
theorem ck_iff {l : List Int} (hb : bytesL l) : lA l 236 = 1669485411 ↔ [bA l 236, bA l 237, bA l 238, bA l 239] = [99, 130, 83, 99] := by
  have h0 := bA_in hb 236
  have h1 := bA_in hb 237
  have h2 := bA_in hb 238
  have h3 := bA_in hb 239
  simp only [List.cons.injEq, and_true]
  rw [show lA l 236 = (bA l 236 * 256 + bA l 237) * 65536 + (bA l 238 * 256 + bA l 239) from rfl]
  constructor
  · intro h
    exact ⟨by omega, by omega, by omega, by omega⟩
  · rintro ⟨h4, h5, h6, h7⟩
    omega
theorem head_iff {l : List Int} (hb : bytesL l) (hl : 240 ≤ l.length) (hn : bA l 2 ≤ 16) : headOf l = l.take 240 ↔ (bA l 1 = 1 ∧ bA l 3 = 0 ∧ (∀ x ∈ padOf l, x = 0) ∧ lA l 236 = 1669485411) := by
  have h2 := bA_in hb 2
  have hpl : (padOf l).length = 208 - (bA l 2).toNat := by unfold padOf; rw [List.length_take, List.length_drop]; omega
  rw [head_of hb hl hn, take_240 hl hn h2.1, ck_iff hb]
  constructor
  · intro h
    obtain ⟨h1, hc⟩ := List.append_inj' h rfl
    obtain ⟨h2, hp⟩ := List.append_inj' h1 (by rw [List.length_replicate, hpl])
    obtain ⟨h3, _⟩ := List.append_inj' h2 rfl
    simp only [List.cons_append, List.nil_append, List.cons.injEq] at h3
    refine ⟨h3.2.1.symm, h3.2.2.2.1.symm, fun x hx => ?_, hc.symm⟩
    rw [← hp] at hx
    exact (List.mem_replicate.1 hx).2
  · rintro ⟨h1, h3, hp, hc⟩
    rw [h1, h3, hc, List.eq_replicate_iff.2 ⟨hpl, hp⟩]

/-! ### Decode -/
theorem decode_eq (l : List Int) (hb : bytesL l) (hl : l.length < 1099511627776) : packet_Decode.f l = some (pdR l) := if_pos ⟨hb, hl⟩
theorem head_len {l : List Int} (hl : 240 ≤ l.length) (hn : bA l 2 ≤ 16) (hn0 : 0 ≤ bA l 2) : (headOf l).length = 240 := by
  have hw := hw_len hl hn
  unfold headOf pkHead pkB pkA pkC
  simp [pk4_len, pk2, hw]
  omega
theorem bytes_head {l : List Int} (hb : bytesL l) (hl : 240 ≤ l.length) (hn : bA l 2 ≤ 16) : bytesL (headOf l) := by
  rw [head_of hb hl hn]
  intro x hx
  simp only [List.mem_append, List.mem_cons, List.not_mem_nil, or_false] at hx
  have hwb : ∀ y ∈ hwOf l, 0 ≤ y ∧ y ≤ 255 := fun y hy => hb y (List.mem_of_mem_drop (List.mem_of_mem_take hy))
  have hz : ∀ y ∈ List.replicate (208 - (bA l 2).toNat) (0 : Int), 0 ≤ y ∧ y ≤ 255 := fun y hy => by rw [(List.mem_replicate.1 hy).2]; omega
  have hA := fun j => bA_in hb j
  repeat' (first | (rcases hx with hx | hx) | (rcases hx with rfl | hx))
  all_goals first | exact hwb _ hx | exact hz _ hx | (subst hx; first | exact hA _ | omega) | exact hA _ | omega
/-! ### what is encoded is decoded -/
end Go.Proofs.YtmbfdmceameghaaDoor.PQ
end

section
-- written by a program of this session (wip/tools/gen.py) over the kit's print
namespace Go.Proofs.YtmbfdmceameghaaDoor.Pr
open Go.RowKit Go.Proofs.YtmbfdmceameghaaDoorW.PrintWords Go.Proofs.YtmbfdmceameghaaDoorW.PrintLast Go.Proofs.YtmbfdmceameghaaDoorW.PrintMore
attribute [local go_sem] max2_int min2_int max_two min_two max_three min_three max_four min_four   -- for this text's walks alone
set_option linter.unusedVariables false
set_option linter.unusedSimpArgs false

/-! ### lessorref03_of: function 13 -/
def lessorref03_of.l0 : Nat → List Int → Int → Int → Option (Int)
 | 0, _, _, _ => none
 | k + 1, x0, x3, x4 => if x4 < (x0.length : Int) then (if 0 ≤ x4 then (lessorref03_of.l0 k x0 (wrap64 ((wrap64 (x3 * 256)) + (wrap64 (rd x0 x4)))) (wrap64 (x4 + 1))) else (none)) else (some x3)
def lessorref03_of.f (k : Nat) (l0 : List Int) : Option (Int) := lessorref03_of.l0 k l0 0 0
theorem lessorref03_of.mono_l : ∀ k, (∀ y0 y1 y2, LeO (lessorref03_of.l0 k y0 y1 y2) (lessorref03_of.l0 (k + 1) y0 y1 y2))
 | 0 => fun _ _ _ r h => by simp [lessorref03_of.l0] at h
 | k + 1 => by
  have ih0 := lessorref03_of.mono_l k
  ·intro y0 y1 y2
   unfold lessorref03_of.l0
   repeat' first
   | (with_reducible exact ih0 _ _ _)
   | (with_reducible exact LeO.refl _)
   | (with_reducible exact LeO.none _)
   | (with_reducible refine LeO.ite ?_ ?_)
   | (with_reducible refine LeO.bind ?_ (fun _ => ?_))
   | exact ih0 _ _ _
   | exact LeO.none _
   | refine LeO.ite ?_ ?_
   | refine LeO.bind ?_ (fun _ => ?_)
theorem lessorref03_of.mono : ∀ a0 k, LeO (lessorref03_of.f k a0) (lessorref03_of.f (k + 1) a0) := by
 intro a0 k
 have ih0 := lessorref03_of.mono_l k
 unfold lessorref03_of.f
 repeat' first
   | (with_reducible exact ih0 _ _ _)
   | (with_reducible exact LeO.refl _)
   | (with_reducible exact LeO.none _)
   | (with_reducible refine LeO.ite ?_ ?_)
   | (with_reducible refine LeO.bind ?_ (fun _ => ?_))
   | exact ih0 _ _ _
   | exact LeO.none _
   | refine LeO.ite ?_ ?_
   | refine LeO.bind ?_ (fun _ => ?_)
set_option maxHeartbeats 8000000 in
set_option maxRecDepth 100000 in
theorem lessorref03_of.calls (k : Nat) (A0 : Option Addr) (c0 : Nat) (l0 : List Int) (r : Int) (w : World) (hr0 : Kd.C (Kd.int .u8) w A0 l0.length l0) (hc0 : l0.length ≤ c0) (h : lessorref03_of.f k l0 = some r) :
  Calls Tryd.prog 13 #[.slice A0 l0.length c0] w fun e w' => e = .returned (.int .i64 r) ∧ Drawn0 w w' := by
 have HR0 := Aside0.mk hr0
 have HC0 := Aside0.mk hc0
 clear hr0 hc0
 have H : (lessorref03_of.l0 k l0 0 0) = some r := h
 clear h
 have H' := Aside0.mk H
 clear H
 go_enter Tryd.func13, Tryd.ntmps13
 go_wp2
 go_loopg [3, 4] k (fun kq v3 v4 w' => ∃ (x3_1 : Int) (x4_1 : Int), v3 = .int .i64 x3_1 ∧ v4 = .int .i64 x4_1 ∧ Aside0 (lessorref03_of.l0 kq l0 x3_1 x4_1 = some r) ∧ Aside0 (kq ≤ k) ∧ Drawn0 w w')
 case atStart => exact ⟨(0), (0), (by first | rfl | (simp; done) | (simp [*]; done)), (by first | rfl | (simp; done) | (simp [*]; done)), H', ⟨Nat.le_refl _⟩, by repeat (first | exact Drawn0.refl _ | apply Drawn0.step)⟩
 case round =>
  clear H'
  try clear c1
  obtain ⟨x3_1, x4_1, rfl, rfl, HA, HK1, ⟨m1, rfl⟩⟩ := hrel
  cases gk with
  | zero => exact absurd HA.out (by simp [lessorref03_of.l0])
  | succ k1 =>
   have H := HA.out
   clear HA
   simp only [lessorref03_of.l0] at H
   by_cases c2 : x4_1 < (l0.length : Int)
   ·rw [if_pos c2] at H
    have c2b0 : decide (x4_1 < (l0.length : Int)) = true := decide_eq_true c2
    clear c2
    by_cases c3 : 0 ≤ x4_1
    ·rw [if_pos c3] at H
     have c3b0 : decide (0 ≤ x4_1) = true := decide_eq_true c3
     clear c3
     have H' := Aside0.mk H
     clear H
     have p137 : 0 ≤ (x4_1 : Int) := of_decide_eq_true (by first | (with_reducible assumption) | assumption)
     have q137 : x4_1 < (l0.length : Int) := of_decide_eq_true (by first | (with_reducible assumption) | assumption)
     obtain ⟨ad137, e137, hx137_0⟩ := Kd.at_int HR0.out x4_1 p137 q137
     cases e137
     replace p137 := eq_true p137
     replace q137 := eq_true q137
     go_wp2
     go_roundg k1
     case measure => have := HK1.out; omega
     case rel => exact ⟨(wrap64 ((wrap64 (x3_1 * 256)) + (wrap64 (rd l0 x4_1)))), (wrap64 (x4_1 + 1)), (by first | rfl | (simp; done) | (simp [*]; done)), (by first | rfl | (simp; done) | (simp [*]; done)), H', ⟨by have := HK1.out; omega⟩, by repeat (first | exact Drawn0.refl _ | apply Drawn0.step)⟩
    ·rw [if_neg c3] at H
     exact absurd H (by simp)
   ·rw [if_neg c2] at H
    have c2b0 : decide (x4_1 < (l0.length : Int)) = false := decide_eq_false c2
    clear c2
    obtain rfl := Option.some.inj H
    go_wp2
    go_ret
    exact ⟨by first | rfl | (simp; done) | (simp [*]; done), by repeat (first | exact Drawn0.refl _ | apply Drawn0.step)⟩

end Go.Proofs.YtmbfdmceameghaaDoor.Pr
end
