/-
  What the laws on nets begin with: a small thing that works. No condition.
-/
import Derived.Test.YtokcplapbjhnoaaHNt8
import Derived.Lib.SmallJoins
namespace Go.Proofs.Ytokcplapbjhnoaa
open Go.RowKit Go.Proofs.YtokcplapbjhnoaaW.PrintWords Go.Proofs.YtokcplapbjhnoaaW.PrintLast Go.Proofs.YtokcplapbjhnoaaW.PrintMore
attribute [local go_sem] max2_int min2_int max_two min_two max_three min_three max_four min_four
set_option linter.unusedVariables false
set_option linter.unusedSimpArgs false

/-- A row of bytes out of a block that is known whole. -/
theorem C_blk {W : World} {g : Nat} {xs : List Int} {t : TypeId} {cs : Array Value} (hb : W.heap[g]? = some (.cells cs t (0, 0))) (hc : cs.toList = nums .u8 xs) (hm : xs.length ≤ 9223372036854775807) : (Kd.int .u8).C W (some ⟨g, 0, none⟩) xs.length xs := by
  refine Kd.C_of_reads (d := (0 : Int)) ⟨rfl, hm, fun _ => ⟨_, rfl, fun j hj => ?_⟩⟩
  rw [add_plain, blk_cell hb, ← Array.getElem?_toList, hc, nums, List.getElem?_map, List.getElem?_eq_getElem hj]
  simp [List.getD_eq_getElem?_getD, List.getElem?_eq_getElem hj]
theorem C_new (W : World) (g : Nat) (hg : g = W.heap.size) (xs : List Int) (t : TypeId) (cs : Array Value) (hc : cs.toList = nums .u8 xs) (hm : xs.length ≤ 9223372036854775807) : (Kd.int .u8).C (W.alloc (.cells cs t)) (some ⟨g, 0, none⟩) xs.length xs := by
  subst hg
  exact C_blk (blk_new _ _) hc hm
theorem C_mark (W : World) (xs : List Int) (t : TypeId) (fr : Nat × Nat) (cs : Array Value) (hc : cs.toList = nums .u8 xs) (hm : xs.length ≤ 9223372036854775807) : (Kd.int .u8).C (W.alloc (.cells cs t fr)) (some ⟨W.heap.size, 0, none⟩) xs.length xs := by
  refine Kd.C_of_reads (d := (0 : Int)) ⟨rfl, hm, fun _ => ⟨_, rfl, fun j hj => ?_⟩⟩
  rw [add_plain, World.cell?_alloc_mark, ← Array.getElem?_toList, hc, nums, List.getElem?_map, List.getElem?_eq_getElem hj]
  simp [List.getD_eq_getElem?_getD, List.getElem?_eq_getElem hj]
theorem conv_lit (x : Value) (W : World) : (convert 28 28 (.slice (some ⟨W.heap.size, 0, none⟩) 1 1)).run Try.prog (W.alloc (.cells #[x] 5)) = .ok (.slice (some ⟨W.heap.size, 0, none⟩) 1 1) (W.alloc (.cells #[x] 5 (1, 2))) :=
  Go.Joins.run_convert_bytes_const_at W 28 5 #[x] 1 1 W.heap.size rfl Try.underlying28 Try.underlying5
/-- What a net alone turns that was made since, is above what was. -/
theorem Ext.out {w W W' : World} {O O' : Nat → Prop} (E : Ext W W' O O') (B : Below w.heap.size w W) (GE : ∀ k, O k → w.heap.size ≤ k) : Below w.heap.size w W' ∧ ∀ k, O' k → w.heap.size ≤ k :=
  ⟨below_fr B E.1 B.size GE, fun k hk => by
    rcases E.2 k hk with h | h
    · exact GE k h
    · exact Nat.le_trans B.size h⟩
theorem NtAt.new' (T U V : TypeId) (room : Int) (w W : World) (g : Nat) (hg : w.heap.size = g) (hW : w.alloc (.cells #[.int .i64 room, .bool false, .slice none 0 0, .slice none 0 0] T) = W) : NtAt T U V W g (fun k => k = g) (NtS.new room) := by
  subst hg
  subst hW
  exact NtAt.new T U V room w
def naw1 : NtS := ⟨5, false, [[97]], []⟩
def naw2 : NtS := ⟨5, false, [[97], [98]], []⟩
theorem nok0 : (NtS.new 5).ok := NtS.ok_new (by decide) (by decide)
theorem nok1 : naw1.ok := by unfold NtS.ok; decide
theorem nok2 : naw2.ok := by unfold NtS.ok; decide
theorem nst1 : (NtS.new 5).put 0 [97] = (0, naw1) := rfl
theorem nst2 : naw1.put 0 [98] = (0, naw2) := rfl
theorem nst3 : naw2.take 0 1 = naw1 := rfl
theorem nst4 : naw2.taken 0 1 = [98] := rfl
theorem nst5 : naw2.place 0 1 = 0 := rfl
theorem nst6 : naw1.len 0 = 1 := rfl
theorem nst7 : naw1.len 1 = 0 := rfl

set_option maxHeartbeats 2000000 in
set_option maxRecDepth 100000 in
theorem nawake_calls (w : World) : Calls Try.prog 7 #[] w fun e w' => e = .returned (.bool true) ∧ Below w.heap.size w w' := by
  go_enter Try.func7, Try.ntmps7
  go_upto_region 4 with (go_at_call 8; refine (net_New_ok 5 _ (by decide) (by decide)).mono ?_; rintro e w1 ⟨rfl, rfl⟩)
  obtain ⟨g, hg⟩ : ∃ g, w.heap.size = g := ⟨_, rfl⟩
  have hB := below_alloc (Below.refl w.heap.size w) (.cells #[.int .i64 5, .bool false, .slice none 0 0, .slice none 0 0] 49)
  obtain ⟨W1, hW1⟩ : ∃ W1, w.alloc (.cells #[.int .i64 5, .bool false, .slice none 0 0, .slice none 0 0] 49) = W1 := ⟨_, rfl⟩
  have D1 := Lib.hid (NtAt.new' 49 5 28 5 w W1 g hg hW1)
  rw [hW1] at hB
  rw [hW1, hg]
  have GE : Hid (∀ k, (fun k => k = g) k → w.heap.size ≤ k) := fun k hk => by have : k = g := hk; omega
  have B1 := Lib.hid hB
  clear hg hW1 hB
  have cva := conv_lit (.int .u8 97) W1
  go_wp2_with fail
  refine (net_Put g _ (NtS.new 5) 0 _ 1 [97] _ (D1.out.below (below_alloc (Below.refl _ _) _)) nok0 (C_mark _ [97] _ _ #[.int .u8 97] rfl (by decide)) (by decide) (by decide)).mono ?_
  rw [nst1]
  rintro e w3 ⟨O3, rfl, h3, f3⟩
  have D3 := Lib.hid h3
  have X3 := Lib.hid (f3.out (below_alloc B1.out _) GE.out)
  clear h3 f3
  have cvb := conv_lit (.int .u8 98) w3
  go_wp2_with fail
  refine (net_Put g O3 naw1 0 _ 1 [98] _ (D3.out.below (below_alloc (Below.refl _ _) _)) nok1 (C_mark _ [98] _ _ #[.int .u8 98] rfl (by decide)) (by decide) (by decide)).mono ?_
  rw [nst2]
  rintro e w4 ⟨O4, rfl, h4, f4⟩
  have D4 := Lib.hid h4
  have X4 := Lib.hid (f4.out (below_alloc X3.out.1 _) X3.out.2)
  clear h4 f4
  go_wp2_with fail
  refine (net_Take g O4 naw2 0 1 _ D4.out nok2).mono ?_
  rw [nst3, nst4, nst5]
  rintro e w5 ⟨O5, vo, rfl, ro, h5, f5⟩
  obtain ⟨A5, c5, m5, rfl, _⟩ := R_slice_n ro
  have s5 : (convert 28 9 (.slice A5 m5 c5)).run Try.prog w5 = .ok (.string { data := #[98] }) w5 := str_R ro
  have D5 := Lib.hid h5
  have X5 := Lib.hid (f5.out X4.out.1 X4.out.2)
  clear h5 f5 ro
  go_wp2_with (first
    | (go_at_call 13; refine (net_Len g O5 naw1 _ _ D5.out).mono ?_; (first | rw [nst6] | rw [nst7]); rintro e w6 ⟨rfl, hw⟩; obtain rfl := hw.symm)
    | fail)
  go_ret
  exact ⟨rfl, X5.out.1⟩
end Go.Proofs.Ytokcplapbjhnoaa
