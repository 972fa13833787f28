/-
  option.of, slices.IndexFunc of options by any test, and option.Find: the data of the first option of a code. Conditions: fewer than 2^47 bytes of data each.
-/
import Derived.Lib.Hide
import Derived.RangeFuncBox
import Derived.Test.YtmbfdmceameghaaHClone
namespace Go.Proofs.Ytmbfdmceameghaa
open Go.RowKit Go.Proofs.Ytmbfdmceameghaa.Pr Go.Proofs.YtmbfdmceameghaaW.PrintWords Go.Proofs.YtmbfdmceameghaaW.PrintLast Go.Proofs.YtmbfdmceameghaaW.PrintMore
attribute [local go_sem] max2_int min2_int max_two min_two max_three min_three max_four min_four
set_option linter.unusedVariables false
set_option linter.unusedSimpArgs false

abbrev OptF := S42
/-- A call of a function value that stands in a slot, one argument. -/
theorem goesv1 {P : Program} {ops : Array Oper} {Q : Exit → Act → World → Prop} {rest : List Oper} {oi : Oper} {a : Act} {w : World} (N : Option Tmp) (hd : oi.dst = N) (hg : oi.guard = none) {gf : Nat} {lb : Array Value} (c x : Operand) (ts : Array TypeId)
    (hop : oi.op = .call { callee := .value c, args := #[x], argTypes := ts }) (hc : a.eval c = .func (.func gf) #[] lb) {v : Value} (hx : a.eval x = v) (eg : ∀ args w, (callFunc gf args).run P w = .ok (.enter gf args) w)
    (h : Calls P gf (#[v] ++ lb) w fun e w' => ∃ u, e = .returned u ∧ wpList P ops Q rest (a.put N u) w') : wpList P ops Q (oi :: rest) a w := by
  refine wpList_plain hg fun K hK => ?_
  unfold Oper.wp
  have he := eg (#[v] ++ lb) w
  have hrun : (execOp a.eval oi).run P w = .ok (.enter gf (#[v] ++ lb)) w := by
    unfold execOp
    simp [hop, resolve, Deferred.ofValue, invoke, hc, hx, he]
  rw [hrun, Oper.upon_enter]
  refine h.mono fun e w'' hh => ?_
  obtain ⟨u, rfl, hk⟩ := hh
  subst hd
  exact hK _ _ hk

theorem rd_opt (l : List OptF) {i : Nat} (h : i < l.length) : rd_T42 l (i : Int) = l[i] := by
  unfold rd_T42
  rw [Int.toNat_natCast, List.getD_eq_getElem?_getD, List.getElem?_eq_getElem h]; rfl
/-- The option that is to come. -/
theorem at_opt {w : World} {A : Option Addr} {l : List OptF} (hC : Kd.C k42 w A l.length l) {k : Nat} (hk : k < l.length) :
    ∃ ad A1 c1, A = some ad ∧ w.cell? (ad.add (k * 2)) = some (.int .i64 l[k].f0) ∧ w.cell? ⟨(ad.add (k * 2)).block, (ad.add (k * 2)).off + 1, none⟩ = some (.slice A1 l[k].f1.length c1) ∧ l[k].f1.length ≤ c1 ∧ (Kd.int .u8).C w A1 l[k].f1.length l[k].f1 := by
  have := at_T42 hC (k : Int) (by omega) (by omega)
  rw [rd_opt l hk, Int.toNat_natCast] at this
  exact this

/-- The place of the first one of which something is true; below 0: there is none. -/
def ixOf (p : OptF → Bool) (l : List OptF) : Int := if l.findIdx p < l.length then (l.findIdx p : Int) else -1
theorem ix_at {p : OptF → Bool} {l : List OptF} {k : Nat} (hk : k < l.length) (h0 : ∀ x ∈ l.take k, p x = false) (h1 : p l[k] = true) : ixOf p l = k := by
  have e : l.findIdx p = k := by
    rw [List.findIdx_eq hk]
    refine ⟨h1, fun j hj => ?_⟩
    exact h0 _ (by rw [List.mem_iff_getElem]; exact ⟨j, by rw [List.length_take]; omega, by rw [List.getElem_take]⟩)
  unfold ixOf
  rw [e, if_pos hk]
theorem ix_none {p : OptF → Bool} {l : List OptF} (h0 : ∀ x ∈ l, p x = false) : ixOf p l = -1 := by
  unfold ixOf
  rw [if_neg]
  intro h
  have := List.findIdx_getElem (w := h)
  rw [h0 _ (List.getElem_mem _)] at this
  cases this

set_option maxHeartbeats 2000000 in
set_option maxRecDepth 100000 in
theorem ix_calls (p : OptF → Bool) (gf : Nat) (lb : Array Value) (eg : ∀ args w, (callFunc gf args).run Try.prog w = .ok (.enter gf args) w) (A : Option Addr) (c : Nat) (l : List OptF) (w : World) (hC : Kd.C k42 w A l.length l) (hc : l.length ≤ c)
    (hcl : ∀ (k : Nat) (hk : k < l.length) (A1 : Option Addr) (c1 : Nat) (W : World), Below w.heap.size w W → Calls Try.prog gf (#[.agg #[.int .i64 l[k].f0, .slice A1 l[k].f1.length c1]] ++ lb) W fun e W' => e = .returned (.bool (p l[k])) ∧ Below W.heap.size W W') :
    Calls Try.prog 33 #[.slice A l.length c, .func (.func gf) #[] lb] w fun e w' => e = .returned (.int .i64 (ixOf p l)) ∧ Below w.heap.size w w' := by
  have HC := Lib.hid hC
  have HE := Lib.hid eg
  have HCL := Lib.hid hcl
  have hl : l.length ≤ 9223372036854775807 := hC.2.1
  clear hC eg hcl
  go_enter Try.func33, Try.ntmps33
  go_wp2_with fail
  go_loopw [8] (fun i wr => ∃ k : Nat, k ≤ l.length ∧ i = .int .i64 k ∧ Hid (∀ x ∈ l.take k, p x = false) ∧ Hid (Below w.heap.size w wr)) (fun i _ => l.length - (intOf i).toNat)
  case atStart => exact ⟨0, Nat.zero_le _, rfl, by show ∀ x ∈ l.take 0, p x = false; simp, Below.refl _ _⟩
  case round =>
    obtain ⟨k, hk, rfl, HP, HW⟩ := hrel
    by_cases hlt : k < l.length
    · obtain ⟨ad, A1, c1, rfl, hx0, hx1, _, _⟩ := at_opt HC.out hlt
      have HK := Lib.hid (HCL.out k hlt A1 c1 wr HW.out)
      obtain ⟨x, hx⟩ : ∃ x, x = l[k] := ⟨_, rfl⟩
      rw [← hx] at hx0 hx1 HK
      have HX := Lib.hid hx
      clear hx
      replace hx0 := (HW.out.cell (World.block_lt_of_cell? w _ hx0)).trans hx0
      replace hx1 := (HW.out.cell (World.block_lt_of_cell? w _ hx1)).trans hx1
      have p1 : (0 ≤ (k : Int)) = True := eq_true (by omega)
      have p2 : ((k : Int) < (l.length : Int)) = True := eq_true (by omega)
      go_wp2_with (first
        | (with_reducible refine goesv1 (oi := ⟨some 16, _, _, _, _, _⟩) (some 16) rfl rfl (.tmp 11) (.tmp 15) #[42] rfl rfl rfl HE.out ?_)
        | fail)
      refine HK.out.mono ?_
      rintro e W1 ⟨rfl, hb⟩
      refine ⟨_, rfl, ?_⟩
      have HW1 := Lib.hid (HW.out.trans (hb.mono HW.out.size))
      clear hb HK
      cases hp : p x with
      | true =>
        have HI : Hid (ixOf p l = k) := ix_at hlt HP.out (by rw [← HX.out]; exact hp)
        clear hp
        go_wp2_with fail
        go_ret
        exact ⟨by rw [HI.out]; rfl, HW1.out⟩
      | false =>
        have HP1 : Hid (∀ y ∈ l.take (k + 1), p y = false) := by
          intro y hy
          rw [List.take_succ_eq_append_getElem hlt] at hy
          rcases List.mem_append.1 hy with hy | hy
          · exact HP.out y hy
          · rw [List.mem_singleton.1 hy, ← HX.out]; exact hp
        clear hp
        go_wp2_with fail
        go_roundw
        case rel => exact ⟨k + 1, by omega, by go_num, HP1, HW1⟩
        case measure => simp [intOf]; omega
    · have p2 : ((k : Int) < (l.length : Int)) = False := eq_false (by omega)
      have HI : Hid (ixOf p l = -1) := ix_none (fun x hx => HP.out x (by rwa [List.take_of_length_le (by omega)]))
      go_wp2_with fail
      go_ret
      exact ⟨by rw [HI.out]; rfl, HW.out⟩

theorem of_calls (code : Int) (w : World) : Calls Try.prog 34 #[.int .i64 code] w fun e w' => e = .returned (.func (.func 36) #[] #[.pointer (some ⟨w.heap.size, 0, none⟩)]) ∧ w' = w.alloc (.cells #[.int .i64 code] 3) := by
  go_enter Try.func34, Try.ntmps34
  go_wp2
  go_ret
  exact ⟨rfl, rfl⟩
theorem enters_of : ∀ args w, (callFunc 36 args).run Try.prog w = .ok (.enter 36 args) w := fun args w => enters_ Try.func36 (by kernel_rfl) rfl args w
theorem of1_calls (b : Nat) (code n : Int) (A1 : Option Addr) (m c1 : Nat) (W : World) (hb : Boxed W b 3 (.int .i64 code)) :
    Calls Try.prog 36 #[.agg #[.int .i64 n, .slice A1 m c1], .pointer (some ⟨b, 0, none⟩)] W fun e W' => e = .returned (.bool (n == code)) ∧ Below W.heap.size W W' := by
  have y1 := hb.cell
  have y2 := (hb.alloc (.cells #[.int .i64 n, .slice A1 m c1] 42)).cell
  clear hb
  go_enter Try.func36, Try.ntmps36
  go_wp2_with fail
  go_ret
  exact ⟨rfl, below_alloc (Below.refl _ _) _⟩

/-! ### option.Find -/
def opFind (l : List OptF) (code : Int) : List Int × Bool := match l.find? (fun x => x.f0 == code) with | some x => (x.f1, true) | none => ([], false)
theorem find_ix {l : List OptF} {code : Int} (h : 0 ≤ ixOf (fun x => x.f0 == code) l) : ∃ (k : Nat) (hk : k < l.length), ixOf (fun x => x.f0 == code) l = k ∧ opFind l code = (l[k].f1, true) := by
  unfold ixOf at h ⊢
  by_cases hk : l.findIdx (fun x => x.f0 == code) < l.length
  · rw [if_pos hk]
    refine ⟨_, hk, rfl, ?_⟩
    unfold opFind
    rw [List.find?_eq_some_iff_getElem (p := fun x : OptF => x.f0 == code) |>.2 ⟨List.findIdx_getElem (w := hk), _, hk, rfl, fun j hj => by simpa using List.not_of_lt_findIdx hj⟩]
  · rw [if_neg hk] at h
    omega
theorem find_no {l : List OptF} {code : Int} (h : ixOf (fun x => x.f0 == code) l < 0) : ixOf (fun x => x.f0 == code) l = -1 ∧ opFind l code = ([], false) := by
  unfold ixOf at h ⊢
  by_cases hk : l.findIdx (fun x => x.f0 == code) < l.length
  · rw [if_pos hk] at h; omega
  · rw [if_neg hk]
    refine ⟨rfl, ?_⟩
    unfold opFind
    rw [List.find?_eq_none.2]
    intro x hx hp
    exact hk (List.findIdx_lt_length_of_exists ⟨x, hx, hp⟩)
def option_Find.f (l0 : List OptF) (a1 : Int) : Option (List Int × Bool) := if ∀ x ∈ l0, x.f1.length < 140737488355328 then some (opFind l0 a1) else none
set_option maxHeartbeats 2000000 in
set_option maxRecDepth 100000 in
theorem option_Find.calls (A0 : Option Addr) (c0 : Nat) (l0 : List OptF) (a1 : Int) (r1 : List Int) (r2 : Bool) (w : World) (hr0 : Kd.C k42 w A0 l0.length l0) (hc0 : l0.length ≤ c0) (h : option_Find.f l0 a1 = some (r1, r2)) :
    Calls Try.prog 29 #[.slice A0 l0.length c0, .int .i64 a1] w fun e w' => ∃ v0_ : Value, e = .returned (.tuple #[v0_, .bool r2]) ∧ Kd.R (Kd.int .u8) 5 w' w.heap.size (fun _ => True) v0_ r1 ∧ Below w.heap.size w w' := by
  unfold option_Find.f at h
  split at h
  case isFalse => cases h
  rename_i hcond
  have HD := Lib.hid hcond
  have HR : Hid (opFind l0 a1 = (r1, r2)) := Option.some.inj h
  have HC := Lib.hid hr0
  have hl : l0.length ≤ 9223372036854775807 := hr0.2.1
  have HB0 := Lib.hid (below_alloc (Below.refl w.heap.size w) (.cells #[.int .i64 a1] 3))
  have HIX : Hid (Calls Try.prog 33 #[.slice A0 l0.length c0, .func (.func 36) #[] #[.pointer (some ⟨w.heap.size, 0, none⟩)]] (w.alloc (.cells #[.int .i64 a1] 3)) fun e w' => e = .returned (.int .i64 (ixOf (fun x => x.f0 == a1) l0)) ∧ Below (w.alloc (.cells #[.int .i64 a1] 3)).heap.size (w.alloc (.cells #[.int .i64 a1] 3)) w') :=
    ix_calls (fun x => x.f0 == a1) _ _ enters_of A0 c0 l0 _ (Kd.C_alloc hr0 _) hc0 (fun k hk A1 c1 W hW => of1_calls w.heap.size a1 _ A1 _ c1 W ((hW.block _ (by simp)).trans (Boxed.new w _ _)))
  clear hcond h hr0
  obtain ⟨ix, hix⟩ : ∃ ix, ixOf (fun x : OptF => x.f0 == a1) l0 = ix := ⟨_, rfl⟩
  rw [hix] at HIX
  by_cases hneg : ix < 0
  · obtain ⟨e1, e2⟩ := find_no (l := l0) (code := a1) (by rw [hix]; exact hneg)
    obtain ⟨rfl, rfl⟩ := Prod.mk.inj (e2.symm.trans HR.out)
    clear e1 e2 HR hix
    go_enter Try.func29, Try.ntmps29
    go_wp2_with (first
      | (go_at_call 34; refine (of_calls a1 _).mono ?_; rintro e w' ⟨rfl, rfl⟩)
      | (go_at_call 33; (with_reducible refine HIX.out.mono ?_); rintro e w2 ⟨rfl, hb⟩; have HB := Lib.hid (HB0.out.trans (hb.mono HB0.out.size)); clear hb)
      | fail)
    go_ret2
    exact ⟨_, rfl, Kd.R_nil _ _ _ _ _, HB.out⟩
  · obtain ⟨k, hk, e1, e2⟩ := find_ix (l := l0) (code := a1) (by rw [hix]; omega)
    obtain ⟨rfl, rfl⟩ := Prod.mk.inj (e2.symm.trans HR.out)
    obtain rfl : ix = (k : Int) := hix.symm.trans e1
    obtain ⟨ad, A1, c1, rfl, hx0, hx1, hx2, hx3⟩ := at_opt HC.out hk
    have HX2 := Lib.hid hx2
    have HX3 := Lib.hid hx3
    have HL := Lib.hid (HD.out l0[k] (List.getElem_mem hk))
    obtain ⟨x, hx⟩ : ∃ x, x = l0[k].f1 := ⟨_, rfl⟩
    rw [← hx] at hx1 HX2 HX3 HL ⊢
    clear e1 e2 HR hix hx hx0 hx2 hx3
    have p1 : (0 ≤ (k : Int)) = True := eq_true (by omega)
    have p2 : ((k : Int) < (l0.length : Int)) = True := eq_true (by omega)
    go_enter Try.func29, Try.ntmps29
    go_wp2_with (first
      | (go_at_call 34; refine (of_calls a1 _).mono ?_; rintro e w' ⟨rfl, rfl⟩)
      | (go_at_call 33; (with_reducible refine HIX.out.mono ?_); rintro e w2 ⟨rfl, hb⟩; have HB := Lib.hid (HB0.out.trans (hb.mono HB0.out.size)); clear hb; have x1 := (HB.out.cell (World.block_lt_of_cell? w _ hx1)).trans hx1; have HCL := Lib.hid (clone_calls A1 c1 x w2 (Kd.C_below HX3.out HB.out) HX2.out HL.out))
      | (go_at_call 35; (with_reducible refine HCL.out.mono ?_); rintro e w3 ⟨v3, rfl, h3, b3⟩; have HR3 := Lib.hid (Kd.R_lower h3 HB.out.size); have HB3 := Lib.hid (HB.out.trans (b3.mono HB.out.size)); clear h3 b3)
      | fail)
    go_ret2
    exact ⟨_, rfl, HR3.out, HB3.out⟩
end Go.Proofs.Ytmbfdmceameghaa
