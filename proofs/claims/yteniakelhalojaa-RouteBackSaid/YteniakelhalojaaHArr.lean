/-
  Arrays of four bytes in memory: loaded, sliced, filled by copy, seen in a slice. No program's function.
-/
import Derived.Test.YteniakelhalojaaHROf
import Derived.Laws.CopyOwn
import Derived.Laws.IdiomCopy
import Derived.Laws.CopyRow
namespace Go.Proofs.Yteniakelhalojaa
open Go.RowKit Go.Proofs.Yteniakelhalojaa.Pn Go.Proofs.YteniakelhalojaaW.PrintWords Go.Proofs.YteniakelhalojaaW.PrintLast Go.Proofs.YteniakelhalojaaW.PrintMore
set_option linter.unusedVariables false
set_option linter.unusedSimpArgs false

theorem load4 (a : Addr) (v0 v1 v2 v3 : Value) (W : World) (h0 : W.cell? a = some v0) (h1 : W.cell? (a.add 1) = some v1) (h2 : W.cell? (a.add 2) = some v2) (h3 : W.cell? (a.add 3) = some v3) :
    (Instr.loadAt 43 (.pointer (some a))).run Try.prog W = .ok (.agg #[v0, v1, v2, v3]) W := by
  have hl := run_loadCells_list (P := Try.prog) W a [v0, v1, v2, v3] (fun j v hj => by
    match j, hj with
    | 0, hj => simp at hj; subst hj; rw [show a.add 0 = a by unfold Addr.add; split <;> simp_all]; exact h0
    | 1, hj => simp at hj; subst hj; exact h1
    | 2, hj => simp at hj; subst hj; exact h2
    | 3, hj => simp at hj; subst hj; exact h3
    | n + 4, hj => simp at hj)
  have ha : Try.prog.underlying 43 = some (.array 4 5) := by kernel_rfl
  have hs : (Try.prog.info? 43).map (fun i => i.size) = some 4 := by kernel_rfl
  obtain ⟨i0, e0, e1⟩ := Option.map_eq_some_iff.1 hs
  simp only [List.length_cons, List.length_nil, Nat.reduceAdd] at hl
  simp [Instr.loadAt, Instr.sureAddr, loadVar, isAgg, run_underlying ha, sizeOf, typeInfo, e0, e1, hl]
theorem arr_slice (g : Nat) (W : World) : (Instr.sliceAt 43 (.pointer (some ⟨g, 0, none⟩)) none none none).run Try.prog W = .ok (.slice (some ⟨g, 0, none⟩) 4 4) W := by
  have ht : Try.prog.underlying 43 = some (.array 4 5) := by kernel_rfl
  have hs : (Try.prog.info? 5).map (fun i => i.size) = some 1 := by kernel_rfl
  obtain ⟨i0, e0, e1⟩ := Option.map_eq_some_iff.1 hs
  simp [Instr.sliceAt, Instr.sureAddr, Instr.sliceBounds, run_underlying ht, sizeOf, typeInfo, e0, e1, Addr.add]
theorem arr_of (A : Option Addr) (n c : Nat) (h : 4 ≤ n) (W : World) : (Instr.arrayAt 43 (.slice A n c)).run Try.prog W = .ok (.pointer A) W := by
  have ht : Try.prog.underlying 43 = some (.array 4 5) := by kernel_rfl
  simp [Instr.arrayAt, run_underlying ht, Nat.not_lt.2 h]
abbrev arr4v (q : List Int) : Array Value := #[.int .u8 (q.getD 0 0), .int .u8 (q.getD 1 0), .int .u8 (q.getD 2 0), .int .u8 (q.getD 3 0)]
theorem copy_net (g : Nat) (A : Option Addr) (on c : Nat) (ys : List Int) (W : World) (ty : TypeId) (hC : (Kd.int .u8).C W A on ys) (hon : on ≤ 4) (hg : W.heap[g]? = some (.cells (arr4v []) 43 (0, 0))) :
    ∃ W', (Builtin.copy_ #[24, 24] ty #[.slice (some ⟨g, 0, none⟩) 4 4, .slice A on c]).run Try.prog W = .ok (.int .i64 (on : Int)) W' ∧ W'.heap[g]? = some (.cells (arr4v ys) 43 (0, 0)) ∧ ∀ B w0, Below B w0 W → B ≤ g → Below B w0 W' := by
  have hu : Try.prog.underlying 24 = some (.slice 5) := by kernel_rfl
  have hs : (Try.prog.info? 5).map (·.size) = some 1 := by kernel_rfl
  have hR := Kd.reads_of_C (d := (0 : Int)) (h1 := fun _ => rfl) hC
  have hl := hR.1
  rcases Nat.eq_zero_or_pos on with h0 | hp
  · subst h0
    obtain rfl : ys = [] := List.length_eq_zero_iff.1 hl
    exact ⟨W, run_copy_none W 24 24 ty 5 _ _ 4 4 0 c hu hs rfl, hg, fun B w0 h _ => h⟩
  · obtain ⟨ad, rfl, hc⟩ := hR.2.2 hp
    have hr := run_copy_row (P := Try.prog) W 24 24 ty 5 g 0 4 4 ad on c (arr4v []) 43 (ys.map (Value.int .u8)) hu hs hg (by rw [List.length_map, hl]; exact (Nat.min_eq_left hon).symm) (fun j v hj => by
      rw [List.getElem?_map, Option.map_eq_some_iff] at hj
      obtain ⟨u, h1, rfl⟩ := hj
      obtain ⟨hjl, h2⟩ := List.getElem?_eq_some_iff.1 h1
      rw [hc j (by omega), List.getD_eq_getElem?_getD, h1]; rfl) (by rw [List.length_map, hl]; simp; omega) (fun v hv => by obtain ⟨u, _, rfl⟩ := List.mem_map.1 hv; rfl)
    refine ⟨_, hr.trans (by rw [List.length_map, hl]; rfl), ?_, fun B w0 h hB => below_setRow h hB _⟩
    · rw [setRow_heap W g (arr4v []) _ 43 (0, 0) hg]
      congr 2
      match ys, hl with
      | [a], h => subst h; rfl
      | [a, b], h => subst h; rfl
      | [a, b, c], h => subst h; rfl
      | [a, b, c, d], h => subst h; rfl
      | [], h => simp at h; omega
      | a :: b :: c :: d :: e :: r, h => simp at h; omega
theorem cells4 (A : Option Addr) (ys : List Int) (W : World) (hC : (Kd.int .u8).C W A 4 ys) : ∃ ad, A = some ad ∧ ∀ j, j < 4 → W.cell? (ad.add j) = some (.int .u8 (ys.getD j 0)) := by
  have hR := Kd.reads_of_C (d := (0 : Int)) (h1 := fun _ => rfl) hC
  obtain ⟨ad, rfl, hc⟩ := hR.2.2 (by omega)
  exact ⟨ad, rfl, fun j hj => hc j (by omega)⟩
theorem load_net (g : Nat) (q : List Int) (W : World) (h : W.heap[g]? = some (.cells (arr4v q) 43 (0, 0))) : (Instr.loadAt 43 (.pointer (some ⟨g, 0, none⟩))).run Try.prog W = .ok (.agg (arr4v q)) W :=
  load4 _ _ _ _ _ W ((blk_cell h 0).trans rfl) ((blk_cell h 1).trans rfl) ((blk_cell h 2).trans rfl) ((blk_cell h 3).trans rfl)
theorem load_at (ad : Addr) (q : List Int) (W : World) (h : ∀ j, j < 4 → W.cell? (ad.add j) = some (.int .u8 (q.getD j 0))) : (Instr.loadAt 43 (.pointer (some ad))).run Try.prog W = .ok (.agg (arr4v q)) W :=
  load4 _ _ _ _ _ W (by have := h 0 (by decide); rwa [show ad.add 0 = ad by unfold Addr.add; split <;> simp_all] at this) (h 1 (by decide)) (h 2 (by decide)) (h 3 (by decide))
end Go.Proofs.Yteniakelhalojaa
