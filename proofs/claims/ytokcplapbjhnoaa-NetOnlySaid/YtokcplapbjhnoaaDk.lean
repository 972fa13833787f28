/-
  Disks, as these proofs see them: what a disk's cells say, and that all else stays as it was. No program in sight.
-/
import Derived.Test.YtokcplapbjhnoaaWMore
import Derived.Test.YtokcplapbjhnoaaWApart
import Derived.Test.YtokcplapbjhnoaaWNEv
import Derived.Test.YtokcplapbjhnoaaWKept
namespace Go.Proofs.Ytokcplapbjhnoaa
open Go.RowKit Go.Proofs.YtokcplapbjhnoaaW.PrintWords Go.Proofs.YtokcplapbjhnoaaW.PrintLast Go.Proofs.YtokcplapbjhnoaaW.PrintMore
set_option linter.unusedVariables false

/-- All but the blocks of S is as it was. -/
structure Fr (w W : World) (S : Nat → Prop) : Prop where
  os : W.os = w.os
  tape : W.tape = w.tape
  output : W.output = w.output
  size : w.heap.size ≤ W.heap.size
  block : ∀ k, k < w.heap.size → ¬ S k → W.heap[k]? = w.heap[k]?

theorem Fr.refl (w : World) (S : Nat → Prop) : Fr w w S := ⟨rfl, rfl, rfl, Nat.le_refl _, fun _ _ _ => rfl⟩
theorem Fr.of_below {w W : World} (h : Below w.heap.size w W) (S : Nat → Prop) : Fr w W S := ⟨h.os, h.tape, h.output, h.size, fun k hk _ => h.block k hk⟩
theorem Fr.mono {w W : World} {S S' : Nat → Prop} (h : Fr w W S) (hs : ∀ k, S k → S' k) : Fr w W S' := ⟨h.os, h.tape, h.output, h.size, fun k hk hn => h.block k hk (fun hS => hn (hs k hS))⟩
theorem Fr.then_ {w W W2 : World} {S S2 : Nat → Prop} (h : Fr w W S) (k : Fr W W2 S2) (hs : ∀ i, S2 i → S i ∨ w.heap.size ≤ i) : Fr w W2 S :=
  ⟨k.os.trans h.os, k.tape.trans h.tape, k.output.trans h.output, Nat.le_trans h.size k.size, fun i hi hn => (k.block i (Nat.lt_of_lt_of_le hi h.size) (fun h2 => by rcases hs i h2 with h3 | h3 <;> first | exact hn h3 | omega)).trans (h.block i hi hn)⟩
theorem Fr.below {w W W2 : World} {S : Nat → Prop} (h : Fr w W S) (hb : Below W.heap.size W W2) : Fr w W2 S := h.then_ (Fr.of_below hb (fun _ => False)) (fun _ hk => hk.elim)
theorem Fr.alloc {w W : World} {S : Nat → Prop} (h : Fr w W S) (o : Obj) : Fr w (W.alloc o) S := h.below (below_alloc (Below.refl _ _) o)
theorem Fr.drew {w W : World} {S : Nat → Prop} (h : Fr w W S) : Fr w W.drew S := ⟨h.os, h.tape, h.output, h.size, h.block⟩
theorem Fr.drewN {w W : World} {S : Nat → Prop} (h : Fr w W S) (n : Nat) : Fr w (W.drewN n) S := ⟨h.os, h.tape, h.output, h.size, h.block⟩
theorem Fr.setCell {w W : World} {S : Nat → Prop} (h : Fr w W S) {p : Addr} (hp : S p.block ∨ w.heap.size ≤ p.block) (u : Value) : Fr w (W.setCell p u) S :=
  h.then_ (S2 := fun k => k = p.block) (by
    refine ⟨rfl, rfl, rfl, by simp, fun k hk hn => Below.heap_setCell W p u k (fun e => hn e)⟩) (fun k hk => by subst hk; exact hp)
theorem Fr.to_below {w W : World} {S : Nat → Prop} {B : Nat} (h : Fr w W S) (hB : B ≤ w.heap.size) (hS : ∀ k, S k → B ≤ k) : Below B w W :=
  ⟨h.os, h.tape, h.output, h.size, fun k hk => h.block k (by omega) (fun hs => by have := hS k hs; omega)⟩
theorem below_fr {w W W2 : World} {S : Nat → Prop} {B : Nat} (h : Below B w W) (k : Fr W W2 S) (hB : B ≤ W.heap.size) (hS : ∀ k, S k → B ≤ k) : Below B w W2 := h.trans (k.to_below hB hS)
theorem Fr.blk {w W : World} {S : Nat → Prop} {g : Nat} {o : Obj} (h : Fr w W S) (hb : w.heap[g]? = some o) (hn : ¬ S g) : W.heap[g]? = some o := (h.block g (blk_lt hb) hn).trans hb
theorem fr_grown {w W : World} {row : Option Nat} (hg : w.grownBy W row) : Fr w W (fun k => some k = row) := ⟨hg.os, hg.tape, hg.output, hg.size, fun k hk hn => hg.block k hk hn⟩

/-- A row of bytes stays, where only blocks of another kind turn. -/
theorem R_fr {α : Type} {d : Kd α} {e : Nat} {w W : World} {base : Nat} {ok : Nat → Prop} {v : Value} {xs : List α} {S : Nat → Prop} (h : d.R e w base ok v xs) (hf : Fr w W S)
    (hS : ∀ k, S k → k < w.heap.size → ∀ q, q ∈ e :: d.E → ∀ cs, w.heap[k]? ≠ some (.cells cs q (0, 0))) : d.R e W base ok v xs :=
  Kd.R_mono (Kd.R_step (Kd.R_bound h) (fun k hk hlt => hf.block k hlt (fun hs => by
    obtain ⟨_, _, _, q, hq, cells, hc⟩ := hk
    exact hS k hs hlt q hq cells hc))) (fun k hk => hk.1)
theorem C_fr {w W : World} {S : Nat → Prop} {k : IntKind} {A : Option Addr} {n : Nat} {xs : List Int} (h : (Kd.int k).C w A n xs) (hf : Fr w W S) (hS : ∀ i, S i → w.heap.size ≤ i) : (Kd.int k).C W A n xs :=
  Kd.C_below h (hf.to_below (Nat.le_refl _) hS)

structure DkS where
  room : Int
  b : List Int
  last : Int
  inn : Int

/-- Disks that may be. -/
def DkS.ok (d : DkS) : Prop := 1 ≤ d.room ∧ d.room ≤ 1048576 ∧ (d.b.length : Int) ≤ d.room ∧ 0 ≤ d.last ∧ d.last ≤ d.b.length ∧ -1 ≤ d.inn ∧ d.inn ≤ 9223372036854775807 ∧ ∀ x ∈ d.b, 0 ≤ x ∧ x ≤ 255

/-- The change that is counted. -/
def DkS.count (d : DkS) : DkS := { d with inn := if 0 < d.inn then d.inn - 1 else d.inn }
def DkS.append (d : DkS) (b : List Int) : Int × DkS := if d.inn = 0 then (7, d) else if d.room < (d.b.length : Int) + b.length then (3, d.count) else (0, { d.count with b := d.b ++ b })
def DkS.sync (d : DkS) : Int × DkS := if d.inn = 0 then (7, d) else (0, { d.count with last := d.b.length })
def DkS.swap (d : DkS) (b : List Int) : Int × DkS := if d.inn = 0 then (7, d) else if d.room < (b.length : Int) then (3, d.count) else (0, { d.count with b := b, last := b.length })
def DkS.fail (d : DkS) (n : Int) : DkS := { d with inn := if n < -1 then -1 else n }
def DkS.crashed (d : DkS) (keep : Int) : List Int := d.b.take (d.last + (let k := if keep < 0 then 0 else keep; if (d.b.length : Int) - d.last < k then (d.b.length : Int) - d.last else k)).toNat
def DkS.crash (d : DkS) (keep : Int) : DkS := { d with b := d.crashed keep, last := (d.crashed keep).length, inn := -1 }
def DkS.new (room : Int) : DkS := ⟨room, [], 0, -1⟩

/-- A disk in memory: four cells of type T in block g; U is the bytes' type. -/
def DkAt (T U : TypeId) (w : World) (g : Nat) (d : DkS) : Prop :=
  ∃ v, w.heap[g]? = some (.cells #[.int .i64 d.room, v, .int .i64 d.last, .int .i64 d.inn] T (0, 0)) ∧ (Kd.int .u8).R U w 0 (fun _ => True) v d.b

theorem DkAt.lt {T U : TypeId} {w : World} {g : Nat} {d : DkS} (h : DkAt T U w g d) : g < w.heap.size := by
  obtain ⟨v, hv, _⟩ := h
  exact blk_lt hv
/-- A disk stays, where another disk alone turns. -/
theorem DkAt.fr {T U T' : TypeId} {w W : World} {g g' : Nat} {d d' : DkS} (h : DkAt T U w g d) (h' : DkAt T' U w g' d') (hU : T' ≠ U) (hf : Fr w W (fun k => k = g')) (hg : g ≠ g') : DkAt T U W g d := by
  obtain ⟨v, hv, hr⟩ := h
  obtain ⟨v', hv', _⟩ := h'
  refine ⟨v, hf.blk hv hg, R_fr hr hf ?_⟩
  rintro k rfl hk q hq cs hc
  rw [hv'] at hc
  obtain ⟨_, rfl, _⟩ := Obj.cells.inj (Option.some.inj hc)
  rcases List.mem_cons.1 hq with rfl | hq
  · exact hU rfl
  · cases hq
theorem DkAt.below {T U : TypeId} {w W : World} {g : Nat} {d : DkS} (h : DkAt T U w g d) (hb : Below w.heap.size w W) : DkAt T U W g d := by
  obtain ⟨v, hv, hr⟩ := h
  exact ⟨v, blk_below hv hb, Kd.R_below hr hb⟩

theorem DkS.ok_count {d : DkS} (h : d.ok) : d.count.ok := by
  obtain ⟨h1, h2, h3, h4, h5, h6, h7, h8⟩ := h
  refine ⟨h1, h2, h3, h4, h5, ?_, ?_, h8⟩ <;> (simp only [DkS.count]; split <;> omega)
theorem DkS.ok_append {d : DkS} (h : d.ok) {b : List Int} (hb : ∀ x ∈ b, 0 ≤ x ∧ x ≤ 255) : (d.append b).2.ok := by
  unfold DkS.append
  split
  · exact h
  · split
    · exact DkS.ok_count h
    · rename_i hn
      obtain ⟨h1, h2, h3, h4, h5, h6, h7, h8⟩ := DkS.ok_count h
      refine ⟨h1, h2, ?_, h4, ?_, h6, h7, fun x hx => ?_⟩
      · simp only [List.length_append]; simp only [DkS.count]; omega
      · simp only [List.length_append]; simp only [DkS.count] at h5 ⊢; omega
      · rcases List.mem_append.1 hx with hx | hx
        · exact h8 x hx
        · exact hb x hx
theorem DkS.ok_sync {d : DkS} (h : d.ok) : d.sync.2.ok := by
  unfold DkS.sync
  split
  · exact h
  · obtain ⟨h1, h2, h3, h4, h5, h6, h7, h8⟩ := DkS.ok_count h
    refine ⟨h1, h2, h3, ?_, ?_, h6, h7, h8⟩ <;> simp only [DkS.count] <;> omega
theorem DkS.ok_swap {d : DkS} (h : d.ok) {b : List Int} (hb : ∀ x ∈ b, 0 ≤ x ∧ x ≤ 255) : (d.swap b).2.ok := by
  unfold DkS.swap
  split
  · exact h
  · split
    · exact DkS.ok_count h
    · rename_i hn
      obtain ⟨h1, h2, h3, h4, h5, h6, h7, h8⟩ := DkS.ok_count h
      refine ⟨h1, h2, ?_, ?_, ?_, h6, h7, hb⟩ <;> simp only [DkS.count] <;> omega
theorem DkS.ok_fail {d : DkS} (h : d.ok) {n : Int} (hn : n ≤ 9223372036854775807) : (d.fail n).ok := by
  obtain ⟨h1, h2, h3, h4, h5, h6, h7, h8⟩ := h
  refine ⟨h1, h2, h3, h4, h5, ?_, ?_, h8⟩ <;> (simp only [DkS.fail]; split <;> omega)
theorem DkS.crashed_len {d : DkS} (h : d.ok) (keep : Int) : (d.crashed keep).length ≤ d.b.length ∧ d.last ≤ (d.crashed keep).length := by
  obtain ⟨h1, h2, h3, h4, h5, h6, h7, h8⟩ := h
  unfold DkS.crashed
  rw [List.length_take]
  refine ⟨by omega, ?_⟩
  dsimp only
  split <;> split <;> omega
theorem DkS.ok_crash {d : DkS} (h : d.ok) (keep : Int) : (d.crash keep).ok := by
  have hl := DkS.crashed_len h keep
  obtain ⟨h1, h2, h3, h4, h5, h6, h7, h8⟩ := h
  refine ⟨h1, h2, ?_, ?_, ?_, ?_, ?_, ?_⟩
  · show ((d.crashed keep).length : Int) ≤ d.room; omega
  · show (0 : Int) ≤ ((d.crashed keep).length : Int); omega
  · exact Int.le_refl _
  · show (-1 : Int) ≤ -1; omega
  · show (-1 : Int) ≤ 9223372036854775807; omega
  · intro x hx
    exact h8 x (List.mem_of_mem_take hx)
theorem DkS.ok_new {room : Int} (h1 : 1 ≤ room) (h2 : room ≤ 1048576) : (DkS.new room).ok := by
  refine ⟨h1, h2, ?_, ?_, ?_, ?_, ?_, ?_⟩ <;> simp [DkS.new] <;> omega

end Go.Proofs.Ytokcplapbjhnoaa
