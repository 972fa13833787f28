/-
  Printed: StRelayBack.
  Packets handed on and handed back, over lists: what the reference's Strip and Same compute of few options.
  The statement RelayBack over numbers and lists: what was put on is stripped off. No condition.
-/
import Derived.Test.YtnkajghemggaaaaMRB1
import Derived.Test.YtnkajghemggaaaaMRB7
import Derived.Test.YtnkajghemggaaaaMRB6
import Derived.Test.YtnkajghemggaaaaMRB2

section
-- written by a program of this session (wip/tools/gen.py) over the kit's print
namespace Go.Proofs.Ytnkajghemggaaaa
open Go.RowKit Go.Proofs.Ytnkajghemggaaaa.Pr Go.Proofs.YtnkajghemggaaaaW.PrintWords Go.Proofs.YtnkajghemggaaaaW.PrintLast Go.Proofs.YtnkajghemggaaaaW.PrintMore
set_option linter.unusedVariables false
namespace relayBack
def PS48 (x : S48) : Prop := ((Lit.int .i64 x.f0).wf = true) ∧ (x.f1.length ≤ maxLen ∧ ∀ y ∈ x.f1, (Lit.int .u8 y).wf = true)
theorem opens_S48 {H : Type} {enc : TypeId × Value → H} {w : World} {base : Nat} {spare : Nat → Bool} {held : Bool} : Opens enc Try.prog w base spare held 48 k48 PS48 :=
  opens_iso (P := Try.prog) (fun a => ⟨a.1, a.2⟩) (fun _ => rfl) (opens_struct Try.underlying48 (by kernel_rfl) (opensF_cons rfl (by kernel_rfl) rfl (opens_int Try.underlying3) (opensF_one rfl (by kernel_rfl) (opens_slice Try.underlying25 (by kernel_rfl) (opens_int Try.underlying5)))))
def PS28 (x : S28) : Prop := ((Lit.int .i64 x.f0).wf = true) ∧ ((Lit.int .u32 x.f1).wf = true) ∧ ((Lit.int .i64 x.f2).wf = true) ∧ ((Lit.int .i64 x.f3).wf = true) ∧ ((Lit.int .u32 x.f4).wf = true) ∧ ((Lit.int .u32 x.f5).wf = true) ∧ ((Lit.int .u32 x.f6).wf = true) ∧ ((Lit.int .u32 x.f7).wf = true) ∧ (x.f8.length ≤ maxLen ∧ ∀ y ∈ x.f8, (Lit.int .u8 y).wf = true) ∧ (x.f9.length ≤ maxLen ∧ ∀ y ∈ x.f9, PS48 y)
theorem opens_S28 {H : Type} {enc : TypeId × Value → H} {w : World} {base : Nat} {spare : Nat → Bool} {held : Bool} : Opens enc Try.prog w base spare held 28 k28 PS28 :=
  opens_iso (P := Try.prog) (fun a => ⟨a.1, a.2.1, a.2.2.1, a.2.2.2.1, a.2.2.2.2.1, a.2.2.2.2.2.1, a.2.2.2.2.2.2.1, a.2.2.2.2.2.2.2.1, a.2.2.2.2.2.2.2.2.1, a.2.2.2.2.2.2.2.2.2⟩) (fun _ => rfl) (opens_struct Try.underlying28 (by kernel_rfl) (opensF_cons rfl (by kernel_rfl) rfl (opens_int Try.underlying3) (opensF_cons rfl (by kernel_rfl) rfl (opens_int Try.underlying23) (opensF_cons rfl (by kernel_rfl) rfl (opens_int Try.underlying3) (opensF_cons rfl (by kernel_rfl) rfl (opens_int Try.underlying3) (opensF_cons rfl (by kernel_rfl) rfl (opens_int Try.underlying24) (opensF_cons rfl (by kernel_rfl) rfl (opens_int Try.underlying24) (opensF_cons rfl (by kernel_rfl) rfl (opens_int Try.underlying24) (opensF_cons rfl (by kernel_rfl) rfl (opens_int Try.underlying24) (opensF_cons rfl (by kernel_rfl) rfl (opens_slice Try.underlying25 (by kernel_rfl) (opens_int Try.underlying5)) (opensF_one rfl (by kernel_rfl) (opens_slice Try.underlying26 (by kernel_rfl) opens_S48))))))))))))
/-- What is left to prove, over numbers and lists. -/
def Pure : Prop := ∀ (s0 : S28) (a1 : Int) (l2 : List (S48)), PS28 s0 → (Lit.int .u32 a1).wf = true → l2.length ≤ maxLen → (∀ x ∈ l2, PS48 x) → ∃ k : Nat, lessorlaw26_RelayBack.f k s0.f0 s0.f1 s0.f2 s0.f3 s0.f4 s0.f5 s0.f6 s0.f7 s0.f8 s0.f9 a1 l2 = some true
end relayBack
end Go.Proofs.Ytnkajghemggaaaa
end

section
namespace Go.Proofs.Ytnkajghemggaaaa.PS
open Go.RowKit Go.Proofs.Ytnkajghemggaaaa Go.Proofs.Ytnkajghemggaaaa.Pr Go.Proofs.YtnkajghemggaaaaW.PrintWords Go.Proofs.YtnkajghemggaaaaW.PrintLast Go.Proofs.YtnkajghemggaaaaW.PrintMore
set_option linter.unusedVariables false
set_option linter.unusedSimpArgs false

theorem wrapS {x : Int} (h0 : 0 ≤ x) (h1 : x < 9223372036854775808) : wrap64 x = x := by unfold wrap64; omega
theorem same3_refl (a0 a1 a2 a3 a4 a5 a6 a7 : Int) (l8 : List Int) (l9 : List OptF) (hl : l9.length ≤ 1000000) (k : Nat) (hk : l9.length < k) : lessorref03_Same.f k a0 a1 a2 a3 a4 a5 a6 a7 l8 l9 a0 a1 a2 a3 a4 a5 a6 a7 l8 l9 = some true := by
  unfold lessorref03_Same.f
  rw [PL.same_refl l9 hl k hk]
  simp
theorem few3_eq (a0 a1 a2 a3 a4 a5 a6 a7 : Int) (l8 : List Int) (l9 : List OptF) (k : Nat) (hk : 101 ≤ k) : ∃ b : Bool, lessorref03_Few.f k a0 a1 a2 a3 a4 a5 a6 a7 l8 l9 = some b ∧ (b = true → PL.few l9 ∧ l8.length < 1000) := by
  obtain ⟨b, hb, hf⟩ := PL.few_eq l9 k hk
  unfold lessorref03_Few.f
  rw [hb]
  cases b with
  | false => exact ⟨false, by simp, fun h => by cases h⟩
  | true =>
    simp only [Option.bind_some, if_true]
    exact ⟨_, rfl, fun h => ⟨hf.1 rfl, by have := of_decide_eq_true h; omega⟩⟩
theorem few_fewP {l8 : List Int} {l9 : List OptF} (h : PL.few l9) (h8 : l8.length < 1000) : fewP l8 l9 := ⟨h8, by have := h.1; omega, h.2⟩

theorem opFind_fd {l8 : List Int} {l9 : List OptF} (hf : fewP l8 l9) (hb : bytesO l9) : (∀ y ∈ (opFind l9 82).1, 0 ≤ y ∧ y ≤ 255) ∧ (opFind l9 82).1.length ≤ 1000 :=
  ⟨opFind_all (p := fun d => ∀ y ∈ d, 0 ≤ y ∧ y ≤ 255) hb (by simp), opFind_all (p := fun d => d.length ≤ 1000) hf.2.2 (by simp)⟩
theorem find_not {l : List OptF} (h : (opFind l 82).2 = false) : l.filter (fun x => !(x.f0 == 82)) = l := by
  rw [List.filter_eq_self]
  intro x hx
  unfold opFind at h
  split at h
  · cases h
  · rename_i hn
    have := List.find?_eq_none.1 hn x hx
    simpa using this
theorem put_filter {l : List OptF} (h : (opFind l 82).2 = false) (b : List Int) : (opPut l 82 b).filter (fun x => !(x.f0 == 82)) = l := (put_others 82 b l).trans (find_not h)
theorem put_all {l : List OptF} {b : List Int} (hl : bytesO l) (hb : ∀ y ∈ b, 0 ≤ y ∧ y ≤ 255) : bytesO (opPut l 82 b) := by
  induction l with
  | nil =>
    intro x hx
    rw [opPut_nil] at hx
    rw [List.mem_singleton.1 hx]
    exact hb
  | cons y l ih =>
    intro x hx
    rw [opPut_cons] at hx
    split at hx
    · rcases List.mem_cons.1 hx with rfl | hx
      · exact hb
      · exact hl x (List.mem_cons_of_mem _ (List.mem_filter.1 hx).1)
    · rcases List.mem_cons.1 hx with rfl | hx
      · exact hl _ (List.mem_cons_self ..)
      · exact ih (fun z hz => hl z (List.mem_cons_of_mem _ hz)) x hx
theorem dec_enc {l : List OptF} {b : List Int} (h : PL.encR l = (b, 0)) : PL.decR b = (l, 0) ∧ PL.enc l = b := by
  unfold PL.encR at h
  split at h
  · rename_i ok
    split at h
    · exact absurd (Prod.mk.inj h).2 (by decide)
    · obtain ⟨rfl, _⟩ := Prod.mk.inj h
      refine ⟨?_, rfl⟩
      unfold PL.decR
      rw [PL.rdL_enc l ok.2]
      simp only [List.nil_append]
      rw [if_pos ⟨PL.enc_ne ok.1, by omega⟩]
  · exact absurd (Prod.mk.inj h).2 (by decide)
theorem addR_len (a0 a1 a2 a3 a4 a5 a6 a7 : Int) (l8 : List Int) (l9 : List OptF) (g : Int) (l : List OptF) (h : l9.length ≤ 199) : (addR a0 a1 a2 a3 a4 a5 a6 a7 l8 l9 g l).2.2.2.2.2.2.2.2.2.1.length ≤ 200 := by
  unfold addR
  split
  · split
    · simp
    · split
      · split
        · have := opPut_len l9 82 (PL.encR l).1
          simp only; omega
        · simp
      · simp
  · simp
theorem stripR_len (a0 a1 a2 a3 a4 a5 a6 a7 : Int) (l8 : List Int) (l9 : List OptF) (h : l9.length ≤ 199) : (stripR a0 a1 a2 a3 a4 a5 a6 a7 l8 l9).2.2.2.2.2.2.2.2.2.1.length ≤ 199 ∧ (stripR a0 a1 a2 a3 a4 a5 a6 a7 l8 l9).2.2.2.2.2.2.2.2.2.2.1.length ≤ 255 := by
  unfold stripR
  split
  · split
    · split
      · refine ⟨Nat.le_trans (List.length_filter_le _ _) h, PL.decR_len _⟩
      · simp
    · simp
  · simp
end Go.Proofs.Ytnkajghemggaaaa.PS
end

section
namespace Go.Proofs.Ytnkajghemggaaaa.relayBack.Pure
open Go.RowKit Go.Proofs.Ytnkajghemggaaaa Go.Proofs.Ytnkajghemggaaaa.Pr Go.Proofs.Ytnkajghemggaaaa.PS Go.Proofs.YtnkajghemggaaaaW.PrintWords Go.Proofs.YtnkajghemggaaaaW.PrintLast
set_option linter.unusedVariables false
set_option linter.unusedSimpArgs false

set_option maxRecDepth 100000 in
theorem RelayBack : relayBack.Pure := by
  intro p g l hp hg hl hx
  refine ⟨3000, ?_⟩
  obtain ⟨h0, h1, h2, h3, h4, h5, h6, h7, h8, h9⟩ := hp
  have A : lessorlaw26_awake.f 3000 = some true := by
    unfold lessorlaw26_awake.f
    rw [PL.encode_eq _ ⟨by simp, by simp⟩ 3000 (by omega)]
    decide +kernel
  have hb : bytesO p.f9 := fun x hx y hy => PL.opt_bytes (h9.2 x hx) y hy
  have hlb : bytesO l := fun z hz y hy => PL.opt_bytes (hx z hz) y hy
  obtain ⟨b, hfb, hfew⟩ := few3_eq p.f0 p.f1 p.f2 p.f3 p.f4 p.f5 p.f6 p.f7 p.f8 p.f9 3000 (by omega)
  obtain ⟨u, hu, hfl⟩ := PL.few_eq l 3000 (by omega)
  unfold lessorlaw26_RelayBack.f
  rw [A, hfb, hu]
  simp only [Option.bind_some, if_true, lessorlaw26_RelayBack.j0]
  cases b with
  | false => rfl
  | true =>
    simp only [if_true]
    cases u with
    | false => rfl
    | true =>
      have hf := hfew rfl
      have hl2 := hfl.1 rfl
      have hfp := few_fewP hf.1 hf.2
      have e1 : relay_Add.f p.f0 p.f1 p.f2 p.f3 p.f4 p.f5 p.f6 p.f7 p.f8 p.f9 g l = some (addR p.f0 p.f1 p.f2 p.f3 p.f4 p.f5 p.f6 p.f7 p.f8 p.f9 g l) := if_pos ⟨hfp, hl2⟩
      rw [e1]
      simp only [Option.bind_some, Bool.not_true, Bool.false_eq_true, if_false]
      have no : ∀ z : Int, z ≠ 0 → addR p.f0 p.f1 p.f2 p.f3 p.f4 p.f5 p.f6 p.f7 p.f8 p.f9 g l = pkNo z → (addR p.f0 p.f1 p.f2 p.f3 p.f4 p.f5 p.f6 p.f7 p.f8 p.f9 g l).2.2.2.2.2.2.2.2.2.2 ≠ 0 ∧ (addR p.f0 p.f1 p.f2 p.f3 p.f4 p.f5 p.f6 p.f7 p.f8 p.f9 g l).2.2.2.2.2.2.2.2.2.1.length = 0 ∧ (addR p.f0 p.f1 p.f2 p.f3 p.f4 p.f5 p.f6 p.f7 p.f8 p.f9 g l).2.2.2.2.2.2.2.2.1.length = 0 := by
        intro z hz e
        rw [e]
        exact ⟨hz, rfl, rfl⟩
      by_cases c1 : PP.okPk p.f0 p.f2 p.f3 p.f8 p.f9 ∧ p.f0 = 1 ∧ g ≠ 0
      case neg =>
        obtain ⟨n1, n2, n3⟩ := no 1 (by decide) (by unfold addR; rw [if_neg c1])
        rw [if_neg n1, n2, n3]; rfl
      by_cases c2 : (opFind p.f9 82).2 = true
      · obtain ⟨n1, n2, n3⟩ := no 5 (by decide) (by unfold addR; rw [if_pos c1, if_pos c2])
        rw [if_neg n1, n2, n3]; rfl
      have c2' : (opFind p.f9 82).2 = false := by simpa using c2
      by_cases c3 : (PL.encR l).2 = 0
      case neg =>
        obtain ⟨n1, n2, n3⟩ := no _ c3 (by unfold addR; rw [if_pos c1, if_neg c2, if_neg c3])
        rw [if_neg n1, n2, n3]; rfl
      obtain ⟨d, hd⟩ : ∃ d, PL.encR l = (d, 0) := ⟨(PL.encR l).1, Prod.ext rfl c3⟩
      by_cases c4 : PP.okPk p.f0 p.f2 p.f3 p.f8 (opPut p.f9 82 d)
      case neg =>
        obtain ⟨n1, n2, n3⟩ := no 3 (by decide) (by unfold addR; rw [if_pos c1, if_neg c2, if_pos c3, hd]; simp only; rw [if_neg c4])
        rw [if_neg n1, n2, n3]; rfl
      have eA : addR p.f0 p.f1 p.f2 p.f3 p.f4 p.f5 p.f6 p.f7 p.f8 p.f9 g l = (p.f0, p.f1, p.f2, p.f3, p.f4, p.f5, p.f6, if p.f7 = 0 then g else p.f7, p.f8, opPut p.f9 82 d, 0) := by
        unfold addR; rw [if_pos c1, if_neg c2, if_pos c3, hd]; simp only; rw [if_pos c4]
      rw [eA]
      obtain ⟨hde, hen⟩ := dec_enc hd
      have hdb : ∀ y ∈ d, 0 ≤ y ∧ y ≤ 255 := by rw [← hen]; exact PL.enc_bytes l hlb
      have hdl : d.length ≤ 255 := by have := encT_len l; rw [hd] at this; exact this
      have hfp2 : fewP p.f8 (opPut p.f9 82 d) := ⟨hfp.1, by have := opPut_len p.f9 82 d; have := hf.1.1; omega, put_bytes hfp.2.2 (by omega)⟩
      have e2 : ∀ gi, relay_Strip.f 2 p.f1 p.f2 p.f3 p.f4 p.f5 p.f6 gi p.f8 (opPut p.f9 82 d) = some (2, p.f1, p.f2, p.f3, p.f4, p.f5, p.f6, 0, p.f8, p.f9, l, 0) := by
        intro gi
        have : relay_Strip.f 2 p.f1 p.f2 p.f3 p.f4 p.f5 p.f6 gi p.f8 (opPut p.f9 82 d) = some (stripR 2 p.f1 p.f2 p.f3 p.f4 p.f5 p.f6 gi p.f8 (opPut p.f9 82 d)) := if_pos ⟨hfp2, put_all hb hdb⟩
        rw [this]
        unfold stripR
        rw [if_pos ⟨⟨.inr rfl, c4.2⟩, rfl⟩, put_found]
        simp only
        rw [if_pos trivial, hde]
        simp only [if_true]
        rw [put_filter c2']
      have key : ∀ gi, lessorlaw26_RelayBack.j1 2999 l gi p.f0 p.f1 p.f2 p.f3 p.f4 p.f5 p.f6 p.f7 p.f8 p.f9 p.f0 p.f1 p.f2 p.f3 p.f4 p.f5 p.f6 gi p.f8 (opPut p.f9 82 d) = some true := by
        intro gi
        simp only [lessorlaw26_RelayBack.j1]
        rw [if_pos trivial, e2]
        simp only [Option.bind_some]
        rw [c1.2.1, same3_refl _ _ _ _ _ _ _ _ _ _ (by have := hf.1.1; omega) 2998 (by have := hf.1.1; omega), PL.same_refl l (by have := hl2.1; omega) 2998 (by have := hl2.1; omega)]
        simp
      simp only [if_true]
      by_cases cg : p.f7 = 0
      · rw [if_pos cg, if_pos cg]; exact key g
      · rw [if_neg cg, if_neg cg]; exact key p.f7
end Go.Proofs.Ytnkajghemggaaaa.relayBack.Pure
end
