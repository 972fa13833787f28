/-
  bytes.Clone hands back a slice of its own that holds the same bytes; nothing that was there turns. Condition: fewer than 2^47 bytes.
-/
import Derived.Test.YtokcplapbjhnoaaPr0
import Derived.WalkSpells
namespace Go.Proofs.Ytokcplapbjhnoaa
open Go.RowKit Go.Proofs.YtokcplapbjhnoaaW.PrintWords Go.Proofs.YtokcplapbjhnoaaW.PrintLast Go.Proofs.YtokcplapbjhnoaaW.PrintMore Go.Proofs.Ytokcplapbjhnoaa.Pr
set_option linter.unusedVariables false
set_option linter.unusedSimpArgs false

theorem cl_info : (Try.prog.info? 5).map (fun i => (i.zero, i.size, i.bytes)) = some (some (.int .u8 0), 1, 1) := by kernel_rfl
set_option maxHeartbeats 1000000 in
set_option maxRecDepth 100000 in
theorem clone_calls (A0 : Option Addr) (c0 : Nat) (l0 : List Int) (w : World) (hr0 : Kd.C (Kd.int .u8) w A0 l0.length l0) (hc0 : l0.length ≤ c0) (hl : l0.length < 140737488355328) :
    Calls Try.prog 19 #[.slice A0 l0.length c0] w fun e w' => ∃ v0_ : Value, e = .returned v0_ ∧ Kd.R (Kd.int .u8) 5 w' w.heap.size (fun _ => True) v0_ l0 ∧ Below w.heap.size w w' := by
  have HR0 := Aside0.mk hr0
  have HC0 := Aside0.mk hc0
  have HL := Aside0.mk hl
  clear hc0 hl
  have HB := Aside0.mk (Below.refl w.heap.size w)
  have hq := Lib.run_eql_slice_nil (P := Try.prog) w 28 5 A0 l0.length c0 0 0 Try.underlying28
  cases A0 with
  | none =>
    obtain rfl : l0 = [] := by
      cases l0 with
      | nil => rfl
      | cons x xs =>
        obtain ⟨ad, h, _⟩ := hr0.2.2 (by simp)
        cases h
    clear hr0 HR0
    simp only [List.length_nil] at hq ⊢
    go_enter Try.func19, Try.ntmps19
    go_wp2
    go_ret
    exact ⟨_, rfl, Kd.R_nil _ _ _ _ _, HB.out⟩
  | some ad =>
    clear hr0
    go_enter Try.func19, Try.ntmps19
    go_wp2_with (first | ((with_reducible refine gate_dst (N := 5) rfl ?_); (try (refine gate_guard (by rfl) ?_; dsimp only)); refine Kd.R_lit (Kd.int .u8) _ 5 ?hg (N := 5) ?hd (xs := ([] : List Int)) (inner := []) (ok := fun _ => True) (okp := fun _ => True) ?hr ?hp (fun _ hk => hk) trivial (Below.refl _ _) (Nat.le_refl _) (by simp) ?_; (case hd => rfl); (case hg => rfl); (case hr => first | (go_simp; done) | (go_simp; rfl)); (case hp => exact (Reps.none _ _)); intro v102 w6 ho7 hb hg_ hnew_; clear hg_ hnew_; have HO := Aside0.mk ho7; have n1_ := Aside0.mk (below_step HB.out hb); clear HB; have HB := n1_; clear n1_ hb ho7) | ((with_reducible refine gate_builtin (b := .append) (xs := #[.tmp 5, .tmp 6]) rfl ?_); (try (refine gate_guard (by rfl) ?_; dsimp only)); at_builtin; refine Kd.R_append_rows (Kd.int .u8) (w0 := w) w.heap.size rfl (.tmp 5) (.tmp 6) 28 5 (.int .u8 0) 1 rfl Try.underlying28 cl_info rfl (by decide) (by omega) v102 [] l0 _ _ _ (fun _ => True) (fun _ => False) rfl rfl ?aO ?aR (fun _ _ h => h) (fun _ h => h.elim) ?aF ?aB ?aS ?aL ?_; (case aR => exact (Kd.C_below HR0.out HB.out)); (case aB => exact HB.out); (case aF => exact (fun _ _ => trivial)); (case aO => exact HO.out); (case aS => exact (below_size HB.out)); (case aL => have := HL.out; simp; omega); intro v128 w8 ho hb hg hat; have HB2 := Aside0.mk hb; have HO2 := Aside0.mk ho; clear HB; have HB := HB2; clear HB2; clear ho hb hg hat))
    go_ret
    exact ⟨_, rfl, by have := HO2.out; simpa using this, HB.out⟩

end Go.Proofs.Ytokcplapbjhnoaa
