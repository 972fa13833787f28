/-
  relay.take and the closure that relay.read defers (recover): what each does. No condition.
-/
import Derived.Lib.Hide
import Derived.RangeFuncBox
import Derived.Defers
import Derived.Recover
import Derived.Test.YtnkajghemggaaaaHClone
namespace Go.Proofs.Ytnkajghemggaaaa
open Go.RowKit Go.Proofs.Ytnkajghemggaaaa.Pr Go.Proofs.YtnkajghemggaaaaW.PrintWords Go.Proofs.YtnkajghemggaaaaW.PrintLast Go.Proofs.YtnkajghemggaaaaW.PrintMore
attribute [local go_sem] max2_int min2_int max_two min_two max_three min_three max_four min_four
set_option linter.unusedVariables false
set_option linter.unusedSimpArgs false

set_option maxHeartbeats 2000000 in
set_option maxRecDepth 100000 in
theorem take_some (A : Option Addr) (c n k : Nat) (w : World) (hk : k ≤ n) (hc : n ≤ c) (hn : n ≤ 9223372036854775807) :
    Calls Try.prog 42 #[.slice A n c, .int .i64 (k : Int)] w fun e w' => e = .returned (.tuple #[.slice A k c, .slice (if c = k then A else A.map (·.add k)) (n - k) (c - k)]) ∧ w' = w.drew := by
  obtain ⟨i0, hinf, hzz⟩ := Option.map_eq_some_iff.1 cl_info
  simp only [Prod.mk.injEq] at hzz
  have r1 := cut_from (P := Try.prog) 25 5 .i64 Try.underlying25 hinf 1 hzz.2.1 A n c (k : Int) (by omega) (by omega)
  have r2 := cut_to (P := Try.prog) 25 5 .i64 Try.underlying25 hinf A n c (k : Int) (by omega) (by omega) hc
  simp only [Int.toNat_natCast, Nat.mul_one] at r1 r2
  have p1 : ((k : Int) > (n : Int)) = False := eq_false (by omega)
  have p2 : ((n : Int) < (k : Int)) = False := eq_false (by omega)
  clear hinf hzz hk hc
  obtain ⟨A2, hA2⟩ : ∃ A2, A2 = (if c = k then A else A.map (·.add k)) := ⟨_, rfl⟩
  obtain ⟨n2, hn2⟩ : ∃ n2, n2 = n - k := ⟨_, rfl⟩
  obtain ⟨c2, hc2⟩ : ∃ c2, c2 = c - k := ⟨_, rfl⟩
  rw [← hA2, ← hn2, ← hc2] at r1 ⊢
  clear hA2 hn2 hc2
  go_enter Try.func42, Try.ntmps42
  go_wp2_with fail
  refine start_ (n := 8) (S := fun w' => True) (ds := []) #[false, false, false, false, false, false, false, false] (by kernel_rfl) rfl rfl trivial (fun hHeld => ?_)
  refine pure_ (i := 0) (N := some 12) (v := ?_) (a' := ?_) #[true, false, false, false, false, false, false, false] rfl rfl (by kernel_rfl) (fun _ _ _ h => h) (Or.inl ⟨by rfl, ?_⟩) ?_ ?_
  rotate_left
  · intro w'
    go_simp
    with_reducible rfl
  rotate_left
  · simp only [Act.put, List.setIfInBounds_toArray, List.set_cons_zero, List.set_cons_succ, i64_w, i32_w]
    rfl
  refine pure_ (i := 1) (N := some 13) (v := ?_) (a' := ?_) #[true, true, false, false, false, false, false, false] rfl rfl (by kernel_rfl) (fun _ _ _ h => h) (Or.inl ⟨by rfl, ?_⟩) ?_ ?_
  rotate_left
  · intro w'
    go_simp
    with_reducible rfl
  rotate_left
  · simp only [Act.put, List.setIfInBounds_toArray, List.set_cons_zero, List.set_cons_succ, i64_w, i32_w]
    rfl
  refine pure_ (i := 2) (N := some 14) (v := .slice A k c) (a' := ?_) #[true, true, true, false, false, false, false, false] rfl rfl (by kernel_rfl) (fun _ _ _ h => h) (Or.inl ⟨by rfl, ?_⟩) ?_ ?_
  · intro w'
    go_simp
    try (with_reducible rfl)
  rotate_left
  · simp only [Act.put, List.setIfInBounds_toArray, List.set_cons_zero, List.set_cons_succ, i64_w, i32_w]
    rfl
  refine pure_ (i := 3) (N := some 15) (v := ?_) (a' := ?_) #[true, true, true, true, false, false, false, false] rfl rfl (by kernel_rfl) (fun _ _ _ h => h) (Or.inl ⟨by rfl, ?_⟩) ?_ ?_
  rotate_left
  · intro w'
    go_simp
    with_reducible rfl
  rotate_left
  · simp only [Act.put, List.setIfInBounds_toArray, List.set_cons_zero, List.set_cons_succ, i64_w, i32_w]
    rfl
  refine pure_ (i := 4) (N := some 16) (v := ?_) (a' := ?_) #[true, true, true, true, true, false, false, false] rfl rfl (by kernel_rfl) (fun _ _ _ h => h) (Or.inl ⟨by rfl, ?_⟩) ?_ ?_
  rotate_left
  · intro w'
    go_simp
    with_reducible rfl
  rotate_left
  · simp only [Act.put, List.setIfInBounds_toArray, List.set_cons_zero, List.set_cons_succ, i64_w, i32_w]
    rfl
  refine pure_ (i := 5) (N := some 17) (v := .slice A2 n2 c2) (a' := ?_) #[true, true, true, true, true, true, false, false] rfl rfl (by kernel_rfl) (fun _ _ _ h => h) (Or.inl ⟨by rfl, ?_⟩) ?_ ?_
  · intro w'
    go_simp
    try (with_reducible rfl)
  rotate_left
  · simp only [Act.put, List.setIfInBounds_toArray, List.set_cons_zero, List.set_cons_succ, i64_w, i32_w]
    rfl
  refine pure_ (i := 6) (N := some 4) (v := ?_) (a' := ?_) #[true, true, true, true, true, true, true, false] rfl rfl (by kernel_rfl) (fun _ _ _ h => h) (Or.inl ⟨by rfl, ?_⟩) ?_ ?_
  rotate_left
  · intro w'
    go_simp
    with_reducible rfl
  rotate_left
  · simp only [Act.put, List.setIfInBounds_toArray, List.set_cons_zero, List.set_cons_succ, i64_w, i32_w]
    rfl
  refine pure_ (i := 7) (N := some 5) (v := ?_) (a' := ?_) #[true, true, true, true, true, true, true, true] rfl rfl (by kernel_rfl) (fun _ _ _ h => h) (Or.inl ⟨by rfl, ?_⟩) ?_ ?_
  rotate_left
  · intro w'
    go_simp
    with_reducible rfl
  rotate_left
  · simp only [Act.put, List.setIfInBounds_toArray, List.set_cons_zero, List.set_cons_succ, i64_w, i32_w]
    rfl
  refine done_ (by kernel_rfl) ?_
  go_wp2_with fail
  go_ret2
  exact ⟨rfl, rfl⟩
set_option maxHeartbeats 1000000 in
set_option maxRecDepth 100000 in
theorem take_none (A : Option Addr) (c n k : Nat) (w : World) (hk : n < k) :
    Calls Try.prog 42 #[.slice A n c, .int .i64 (k : Int)] w fun e w' => e = .panicked [{ v := .iface 67 (.agg #[]), recovered := false }] ∧ w' = w := by
  have p1 : ((k : Int) > (n : Int)) = True := eq_true (by omega)
  have p2 : ((n : Int) < (k : Int)) = True := eq_true (by omega)
  have hpn : ∀ w : World, (Instr.panic (.iface 67 (.agg #[]))).run Try.prog w = .halt (.panic (.iface 67 (.agg #[]))) w := fun _ => rfl
  go_enter Try.func42, Try.ntmps42
  go_wp2_with fail
  simp [bodyPost]

set_option maxRecDepth 100000 in
set_option maxHeartbeats 2000000 in
/-- The deferred closure, in a frame that panics with a cut: recovered; the results are nil and false. -/
theorem catch_cut (bl bf : Nat) (v : Value) (b : Bool) (older : List PanicEntry) (w : World) (hl : Boxed w bl 26 v) (hf : Boxed w bf 4 (.bool b)) (hne : bf ≠ bl) :
    CallsD Try.prog 41 #[.pointer (some ⟨bl, 0, none⟩), .pointer (some ⟨bf, 0, none⟩)] (.panicking ({ v := .iface 67 (.agg #[]), recovered := false } :: older)) w fun e u' w' =>
      e = .returned (.tuple #[]) ∧ u' = .panicking ({ v := .iface 67 (.agg #[]), recovered := true } :: older) ∧ w' = ((w.alloc (.cells #[] 67)).setCell ⟨bl, 0, none⟩ (.slice none 0 0)).setCell ⟨bf, 0, none⟩ (.bool false) := by
  have y1 := (hl.alloc (.cells #[] 67)).cell
  have y2 := (hf.alloc (.cells #[] 67)).cell
  have hta : ∀ w, (Instr.typeAssert (.iface 67 (.agg #[])) 20 67 true).run Try.prog w = .ok (.tuple #[.agg #[], .bool true]) w := fun w => by kernel_rfl
  refine callsD_of_wpS Try.func41 rfl fun c₀ cs hu => ?_
  apply wpS_seq
  apply wpS_region
  simp [wpOpsS, go_sem, recoverD, hu, Try.ntmps41, Exit.thenS, hta, y1, y2, Act.put, Array.replicate]
  clear hta
  apply wpS_seq
  apply wpS_region
  simp [wpOpsS, go_sem, Exit.thenS, Act.put]
  refine wpS_cond (t := true) (by simp [Act.eval, Array.replicate]) ?_
  simp only [if_true]
  apply wpS_region
  have z1 := (hl.alloc (.cells #[] 67)).frozen
  have y3 : ((w.alloc (.cells #[] 67)).setCell ⟨bl, 0, none⟩ (.slice none 0 0)).cell? ⟨bf, 0, none⟩ = some (.bool b) := (World.cell?_setCell_other _ _ _ _ (by intro e; injection e with e; exact hne e.symm)).trans y2
  have z2 := (hf.alloc (.cells #[] 67)).frozen
  simp [wpOpsS, go_sem, y1, y3, z1, z2, bodyPostS, results, Try.results41, hu]

/-- The same where nothing panics. -/
theorem catch_none (bl bf : Nat) (w : World) :
    CallsD Try.prog 41 #[.pointer (some ⟨bl, 0, none⟩), .pointer (some ⟨bf, 0, none⟩)] .returning w fun e u' w' => e = .returned (.tuple #[]) ∧ u' = .returning ∧ w' = w.alloc (.cells #[] 67) := by
  have hta : ∀ w, (Instr.typeAssert .nilIface 20 67 true).run Try.prog w = .ok (.tuple #[.agg #[], .bool false]) w := fun w => by kernel_rfl
  refine callsD_of_wpS Try.func41 rfl fun c₀ cs hu => ?_
  apply wpS_seq
  apply wpS_region
  simp [wpOpsS, go_sem, recoverD, hu, Try.ntmps41, Exit.thenS, hta, Act.put, Array.replicate]
  clear hta
  apply wpS_seq
  apply wpS_region
  simp [wpOpsS, go_sem, Exit.thenS, Act.put]
  refine wpS_cond (t := false) (by simp [Act.eval, Array.replicate]) ?_
  simp only [Bool.false_eq_true, if_false]
  refine wpS_of_wp (wp_skip ?_)
  cases c₀
  simp_all [bodyPostS, results, Try.results41]

end Go.Proofs.Ytnkajghemggaaaa
