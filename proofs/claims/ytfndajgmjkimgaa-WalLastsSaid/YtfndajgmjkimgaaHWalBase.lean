/-
  What a law on a log's steps needs: the steps, told as a list; which lists are long. No condition.
-/
import Derived.Test.YtfndajgmjkimgaaHWalE
import Derived.Test.YtfndajgmjkimgaaPrF17
namespace Go.Proofs.Ytfndajgmjkimgaa
open Go.RowKit Go.Proofs.Ytfndajgmjkimgaa.Pr Go.Proofs.Ytfndajgmjkimgaa.FrL Go.Proofs.YtfndajgmjkimgaaW.PrintWords Go.Proofs.YtfndajgmjkimgaaW.PrintLast Go.Proofs.YtfndajgmjkimgaaW.PrintMore
attribute [local go_sem] max2_int min2_int max_two min_two max_three min_three max_four min_four
set_option linter.unusedVariables false
set_option linter.unusedSimpArgs false

abbrev WsE := S55
def wsOk (x : WsE) : Prop := x.f1 ≤ 9223372036854775807 ∧ (∀ y ∈ x.f2, 0 ≤ y ∧ y ≤ 255) ∧ ∀ z ∈ x.f3, ∀ y ∈ z, 0 ≤ y ∧ y ≤ 255
instance (x : WsE) : Decidable (wsOk x) := by unfold wsOk; infer_instance

theorem rd_ws (l : List WsE) {i : Nat} (h : i < l.length) : rd_T55 l (i : Int) = l[i] := by
  unfold rd_T55
  rw [Int.toNat_natCast, List.getD_eq_getElem?_getD, List.getElem?_eq_getElem h]; rfl
theorem wlong_loop (l : List WsE) (hl : l.length ≤ 9223372036854775807) : ∀ (d i k : Nat), l.length ≤ i + d → i ≤ l.length → d < k → (∀ x ∈ l.take i, x.f3.length ≤ 20) →
    ∃ r, lessorlaw10_long.l0 k l (i : Int) = some r ∧ (r = false → (∀ x ∈ l, x.f3.length ≤ 20) ∧ l.length ≤ 80) := by
  intro d
  induction d with
  | zero =>
    intro i k h1 h2 hk hp
    obtain ⟨k, rfl⟩ : ∃ m, k = m + 1 := ⟨k - 1, by omega⟩
    obtain rfl : i = l.length := by omega
    simp only [lessorlaw10_long.l0]
    rw [if_neg (by omega)]
    rw [List.take_length] at hp
    exact ⟨_, rfl, fun h => ⟨hp, by have := of_decide_eq_false h; omega⟩⟩
  | succ d ih =>
    intro i k h1 h2 hk hp
    obtain ⟨k, rfl⟩ : ∃ m, k = m + 1 := ⟨k - 1, by omega⟩
    by_cases h : i < l.length
    · simp only [lessorlaw10_long.l0]
      rw [if_pos (by omega), if_pos (by omega), rd_ws l h]
      by_cases c : ((l[i].f2.length : Nat) : Int) > 1100
      · rw [if_pos c]
        exact ⟨true, rfl, fun h => by cases h⟩
      · rw [if_neg c]
        by_cases c2 : ((l[i].f3.length : Nat) : Int) > 20
        · rw [if_pos c2]
          exact ⟨true, rfl, fun h => by cases h⟩
        · rw [if_neg c2, show wrap64 ((i : Int) + 1) = ((i + 1 : Nat) : Int) from by unfold wrap64; omega]
          refine ih (i + 1) k (by omega) (by omega) (by omega) ?_
          intro x hx
          rw [List.take_succ_eq_append_getElem h] at hx
          rcases List.mem_append.1 hx with hx | hx
          · exact hp x hx
          · rw [List.mem_singleton.1 hx]; omega
    · obtain rfl : i = l.length := by omega
      exact ih l.length (k + 1) (by omega) (by omega) (by omega) hp
theorem wlong_any (l : List WsE) (hl : l.length ≤ 9223372036854775807) (A : Option Addr) (c : Nat) (w : World) (hC : Kd.C k55 w A l.length l) (hc : l.length ≤ c) :
    ∃ r : Bool, (r = false → (∀ x ∈ l, x.f3.length ≤ 20) ∧ l.length ≤ 80) ∧ Calls Try.prog 17 #[.slice A l.length c] w fun e w' => e = .returned (.bool r) ∧ Drawn0 w w' := by
  obtain ⟨r, h1, h2⟩ := wlong_loop l hl l.length 0 (l.length + 1) (by omega) (by omega) (by omega) (by simp)
  exact ⟨r, h2, lessorlaw10_long.calls (l.length + 1) A c l r w hC hc (by unfold lessorlaw10_long.f; exact h1)⟩

def wruns (d : DkS) (l : List WsE) : DkS := l.foldl (fun d x => d.wstep x.f0 x.f1 x.f2 x.f3) d
theorem wruns_succ (d : DkS) (l : List WsE) {k : Nat} (h : k < l.length) : wruns d (l.take (k + 1)) = (wruns d (l.take k)).wstep l[k].f0 l[k].f1 l[k].f2 l[k].f3 := by
  unfold wruns
  rw [List.take_succ_eq_append_getElem h, List.foldl_append]; rfl
theorem wruns_ok {d : DkS} (h : d.ok) {l : List WsE} (hl : ∀ x ∈ l, wsOk x) : (wruns d l).ok := by
  induction l generalizing d with
  | nil => exact h
  | cons x l ih =>
    have hx := hl x (List.mem_cons_self ..)
    exact ih (ok_wstep h x.f0 hx.1 hx.2.1 hx.2.2) (fun y hy => hl y (List.mem_cons_of_mem _ hy))

/-- The step that is to come. -/
theorem at_ws {w : World} {A : Option Addr} {l : List WsE} (hC : Kd.C k55 w A l.length l) {k : Nat} (hk : k < l.length) :
    ∃ ad A2 c2 A3 c3, A = some ad ∧ w.cell? (ad.add (k * 4)) = some (.int .i64 l[k].f0) ∧ w.cell? ⟨(ad.add (k * 4)).block, (ad.add (k * 4)).off + 1, none⟩ = some (.int .i64 l[k].f1) ∧ w.cell? ⟨(ad.add (k * 4)).block, (ad.add (k * 4)).off + 2, none⟩ = some (.slice A2 l[k].f2.length c2) ∧
      w.cell? ⟨(ad.add (k * 4)).block, (ad.add (k * 4)).off + 3, none⟩ = some (.slice A3 l[k].f3.length c3) ∧ l[k].f2.length ≤ c2 ∧ (Kd.int .u8).C w A2 l[k].f2.length l[k].f2 ∧ l[k].f3.length ≤ c3 ∧ (Kd.slice 5 (Kd.int .u8)).C w A3 l[k].f3.length l[k].f3 := by
  have := at_T55 hC (k : Int) (by omega) (by omega)
  rw [rd_ws l hk, Int.toNat_natCast] at this
  exact this
/-- A row of the caller's own bytes stays where the disks alone turn. -/
theorem row_fr {α : Type} {d : Kd α} {w0 w W : World} {A : Option Addr} {n : Nat} {xs : List α} {S : Nat → Prop} (h : d.C w0 A n xs) (hb : Below w0.heap.size w0 w) (hf : Fr w W S) (hS : ∀ k, S k → w0.heap.size ≤ k) : d.C W A n xs :=
  Kd.C_below h (below_fr hb hf hb.size hS)
/-- A log's disk has frames alone. -/
def framed (d : DkS) : Prop := ∃ R : List (List Int), (∀ x ∈ R, rOk x) ∧ d.b = puts R
theorem framed_recs {d : DkS} {R : List (List Int)} (h : ∀ x ∈ R, rOk x) (hb : d.b = puts R) : d.recs = R ∧ d.used = (d.b.length : Int) := by
  have := scan_puts h
  unfold DkS.recs DkS.used
  rw [hb, this]
  exact ⟨rfl, rfl⟩
theorem framed_of {d d' : DkS} (h : framed d) (e : d'.b = d.b) : framed d' := by
  obtain ⟨R, h1, h2⟩ := h
  exact ⟨R, h1, e.trans h2⟩
theorem put_cases (d : DkS) (b : List Int) : ((d.put b).1 ≠ 0 ∧ (d.put b).2.b = d.b) ∨ ((d.put b).1 = 0 ∧ rOk b ∧ (d.put b).2.b = d.b ++ putOf b) := by
  unfold DkS.put
  split
  · rename_i hr
    unfold DkS.append
    split
    · exact .inl ⟨by show (7 : Int) ≠ 0; decide, rfl⟩
    · split
      · exact .inl ⟨by show (3 : Int) ≠ 0; decide, rfl⟩
      · exact .inr ⟨rfl, hr, rfl⟩
  · exact .inl ⟨by show (1 : Int) ≠ 0; decide, rfl⟩
theorem compact_cases (d : DkS) (l : List (List Int)) : ((d.compact l).1 ≠ 0 ∧ (d.compact l).2.b = d.b) ∨ ((d.compact l).1 = 0 ∧ (∀ x ∈ l, rOk x) ∧ (d.compact l).2.b = puts l ∧ (d.compact l).2.last = ((puts l).length : Int)) := by
  unfold DkS.compact
  split
  · rename_i hr
    unfold DkS.swap
    split
    · exact .inl ⟨by show (7 : Int) ≠ 0; decide, rfl⟩
    · split
      · exact .inl ⟨by show (3 : Int) ≠ 0; decide, rfl⟩
      · exact .inr ⟨rfl, hr, rfl, rfl⟩
  · exact .inl ⟨by show (1 : Int) ≠ 0; decide, rfl⟩
theorem framed_put {d : DkS} (h : framed d) (b : List Int) : framed (d.put b).2 := by
  rcases put_cases d b with ⟨_, e⟩ | ⟨_, hr, e⟩
  · exact framed_of h e
  · obtain ⟨R, h1, h2⟩ := h
    refine ⟨R ++ [b], fun x hx => ?_, by rw [e, h2, puts_snoc]⟩
    rcases List.mem_append.1 hx with hx | hx
    · exact h1 x hx
    · rw [List.mem_singleton.1 hx]; exact hr
theorem framed_compact {d : DkS} (h : framed d) (l : List (List Int)) : framed (d.compact l).2 := by
  rcases compact_cases d l with ⟨_, e⟩ | ⟨_, hr, e, _⟩
  · exact framed_of h e
  · exact ⟨l, hr, e⟩
theorem framed_open {d : DkS} (h : d.ok) (h0 : d.open.1 = 0) : framed d.open.2 := by
  obtain ⟨u, h1, h2, h3, h4⟩ := ok_used h
  refine ⟨d.recs, h4, ?_⟩
  rw [h3]
  unfold DkS.open at h0 ⊢
  rw [h2] at h0 ⊢
  by_cases hlt : (u : Int) < d.b.length
  · rw [if_pos hlt, Int.toNat_natCast] at h0 ⊢
    unfold DkS.swap at h0 ⊢
    split
    · rename_i hi; rw [if_pos hi] at h0; cases h0
    · rename_i hi
      rw [if_neg hi] at h0
      split
      · rename_i hj; rw [if_pos hj] at h0; cases h0
      · rfl
  · rw [if_neg hlt, List.take_of_length_le (by omega)]
theorem framed_wstep {d : DkS} (h : framed d) (hok : d.ok) (k n : Int) (b : List Int) (l : List (List Int)) : framed (d.wstep k n b l) := by
  unfold DkS.wstep
  split
  · exact framed_put h b
  · split
    · refine framed_of h ?_
      unfold DkS.sync
      split <;> rfl
    · split
      · exact framed_compact h l
      · split
        · exact framed_of h rfl
        · exact framed_open (DkS.ok_crash hok n) (crash_open hok n)
theorem framed_new (room : Int) : framed (DkS.new room) := ⟨[], by simp, by simp [DkS.new, puts]⟩
theorem framed_runs {d : DkS} (h : framed d) (hok : d.ok) {l : List WsE} (hl : ∀ x ∈ l, wsOk x) : framed (wruns d l) := by
  induction l generalizing d with
  | nil => exact h
  | cons x l ih =>
    have hx := hl x (List.mem_cons_self ..)
    exact ih (framed_wstep h hok _ _ _ _) (ok_wstep hok x.f0 hx.1 hx.2.1 hx.2.2) (fun y hy => hl y (List.mem_cons_of_mem _ hy))
theorem crash_sure {d : DkS} (h : d.last = d.b.length) : (d.crash 0).b = d.b := by
  show d.crashed 0 = d.b
  unfold DkS.crashed
  rw [h]
  simp
end Go.Proofs.Ytfndajgmjkimgaa
