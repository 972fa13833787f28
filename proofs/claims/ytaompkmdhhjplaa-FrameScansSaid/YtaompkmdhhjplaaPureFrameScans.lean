/- The statement FrameScans over numbers and lists: of any bytes both Scans tell the same records and the same length. No condition. -/
import Derived.Test.YtaompkmdhhjplaaPrF4
namespace Go.Proofs.Ytaompkmdhhjplaa.Pure
open Go.RowKit Go.Proofs.Ytaompkmdhhjplaa Go.Proofs.Ytaompkmdhhjplaa.Pr Go.Proofs.YtaompkmdhhjplaaW.PrintWords Go.Proofs.YtaompkmdhhjplaaW.PrintLast
set_option linter.unusedVariables false
set_option linter.unusedSimpArgs false

theorem awakeS : lessorlaw09_awake.f = some true := by decide +kernel
theorem wrap_smallS {x : Int} (h0 : 0 ≤ x) (h1 : x < 9223372036854775808) : wrap64 x = x := by unfold wrap64; omega

theorem u8_wfS {x : Int} (h : (Lit.int .u8 x).wf = true) : 0 ≤ x ∧ x ≤ 255 := by
  simpa [Lit.wf, IntKind.min, IntKind.max, IntKind.signed, IntKind.bits] using h

def usedFrom (a : Nat) (l : List (Nat × List Int)) : Int := match l.getLast? with | some x => x.1 | none => a
theorem usedFrom_cons (a : Nat) (x : Nat × List Int) (l : List (Nat × List Int)) : usedFrom a (x :: l) = usedFrom x.1 l := by
  unfold usedFrom
  cases l with
  | nil => rfl
  | cons y l =>
    rw [List.getLast?_cons_cons]
    obtain ⟨z, hz⟩ : ∃ z, (y :: l).getLast? = some z := ⟨_, List.getLast?_eq_some_getLast (by simp)⟩
    rw [hz]

theorem usedFrom_zero (l : List (Nat × List Int)) : usedFrom 0 l = frUsed l := by unfold usedFrom frUsed; cases l.getLast? <;> rfl

theorem ref_scan (b : List Int) (hb : ∀ x ∈ b, 0 ≤ x ∧ x ≤ 255) (hl : b.length ≤ 2000000) : ∀ (j : Nat) (a : Nat) (pre : List (List Int)) (k : Nat), a ≤ b.length → b.length ≤ a + j → j < k → pre.length ≤ a →
    lessorref09_Scan.l0 k b pre (a : Int) = some (pre ++ (frGo b j a).map Prod.snd, usedFrom a (frGo b j a)) := by
  intro j
  induction j with
  | zero =>
    intro a pre k ha hj hk hp
    obtain ⟨k, rfl⟩ : ∃ m, k = m + 1 := ⟨k - 1, by omega⟩
    simp only [lessorref09_Scan.l0]
    rw [wrap_smallS (by omega) (by omega), if_neg (by omega)]
    simp [frGo, usedFrom]
  | succ j ih =>
    intro a pre k ha hj hk hp
    obtain ⟨k, rfl⟩ : ∃ m, k = m + 1 := ⟨k - 1, by omega⟩
    simp only [lessorref09_Scan.l0, frGo]
    have e2 : wrap64 ((a : Int) + 2) = a + 2 := wrap_smallS (by omega) (by omega)
    simp only [e2]
    by_cases h2 : a + 2 < b.length
    · have e1 : wrap64 ((a : Int) + 1) = a + 1 := wrap_smallS (by omega) (by omega)
      have e3 : wrap64 ((a : Int) + 3) = a + 3 := wrap_smallS (by omega) (by omega)
      obtain ⟨hi, ehi⟩ : ∃ z, rd b (a : Int) = z := ⟨_, rfl⟩
      obtain ⟨lo, elo⟩ : ∃ z, rd b ((a : Int) + 1) = z := ⟨_, rfl⟩
      have bhi : 0 ≤ hi ∧ hi ≤ 255 := by rw [← ehi]; exact rd_byte hb _
      have blo : 0 ≤ lo ∧ lo ≤ 255 := by rw [← elo]; exact rd_byte hb _
      obtain ⟨m, hm⟩ : ∃ m : Int, hi * 256 + lo = m := ⟨_, rfl⟩
      have e4 : wrap64 hi = hi := wrap_smallS (by omega) (by omega)
      have e5 : wrap64 lo = lo := wrap_smallS (by omega) (by omega)
      have e6 : wrap64 (hi * 256) = hi * 256 := wrap_smallS (by omega) (by omega)
      have e7 : wrap64 (hi * 256 + lo) = m := by rw [hm]; exact wrap_smallS (by omega) (by omega)
      have e8 : wrap64 ((a : Int) + 3 + m) = a + 3 + m := wrap_smallS (by omega) (by omega)
      have e9 : wrap64 ((a : Int) + 2 + m) = a + 2 + m := wrap_smallS (by omega) (by omega)
      have HM : frNum b a = m := by
        have r1 : b.getD a 0 = hi := ehi
        have r2 : b.getD (a + 1) 0 = lo := by have h := elo; unfold rd at h; rwa [show ((a : Int) + 1).toNat = a + 1 from by omega] at h
        unfold frNum; rw [r1, r2]; exact hm
      simp only [e1, e3, ehi, elo, e4, e5, e6, e7, e8, e9]
      rw [if_pos (by omega), if_pos (by omega), if_pos (by omega), if_pos (by omega), if_pos (by omega)]
      by_cases t1 : m < 1
      · rw [if_pos t1, if_neg (fun h : frOk b a => by have := h.2.1; omega)]; simp [usedFrom]
      · rw [if_neg t1]
        by_cases t2 : m > 1000
        · rw [if_pos t2, if_neg (fun h : frOk b a => by have := h.2.2.1; omega)]; simp [usedFrom]
        · rw [if_neg t2]
          by_cases t3 : (a : Int) + 3 + m > b.length
          · rw [if_pos t3, if_neg (fun h : frOk b a => by have := h.2.2.2.1; omega)]; simp [usedFrom]
          · rw [if_neg t3, if_pos (by omega), if_pos (by omega)]
            have r3 : rd b ((a : Int) + 2 + m) = b.getD (a + 2 + (frNum b a).toNat) 0 := by unfold rd; rw [HM, show ((a : Int) + 2 + m).toNat = a + 2 + m.toNat from by omega]
            by_cases t4 : rd b ((a : Int) + 2 + m) = 90
            · have ok : frOk b a := ⟨h2, by omega, by omega, by omega, by rw [← r3]; exact t4⟩
              rw [if_pos t4, if_pos ok]
              simp only [Option.bind_some]
              have hlen : ((List.take ((a : Int) + 2 + m).toNat b).drop ((a : Int) + 2).toNat).length ≤ b.length := by rw [List.length_drop, List.length_take]; omega
              rw [if_pos (by omega), if_pos (by omega), if_pos (by omega), if_pos (by simp only [List.length_nil]; omega), if_pos (by omega)]
              have hn : (a : Int) + 3 + m = (frNext b a : Nat) := by unfold frNext; rw [HM]; omega
              have hr : List.drop ((a : Int) + 2).toNat (List.take ((a : Int) + 2 + m).toNat b) = frRec b a := by
                unfold frRec; rw [HM, show ((a : Int) + 2 + m).toNat = a + 2 + m.toNat from by omega, show ((a : Int) + 2).toNat = a + 2 from by omega]
              rw [hn, List.nil_append, hr, ih (frNext b a) (pre ++ [frRec b a]) k (by omega) (by omega) (by omega) (by simp; omega), usedFrom_cons]
              simp
            · rw [if_neg t4, if_neg (fun h : frOk b a => t4 (by rw [r3]; exact h.2.2.2.2))]; simp [usedFrom]
    · rw [if_neg (by omega), if_neg (fun h : frOk b a => h2 h.1)]; simp [usedFrom]

theorem same_refl (l : List (List Int)) (hl : l.length ≤ 9000000) : ∀ (d : Nat) (i : Nat) (k : Nat), l.length ≤ i + d → i ≤ l.length → d < k → lessorref09_Same.l0 k l l (i : Int) = some true := by
  intro d
  induction d with
  | zero =>
    intro i k h1 h2 hk
    obtain ⟨k, rfl⟩ : ∃ m, k = m + 1 := ⟨k - 1, by omega⟩
    simp only [lessorref09_Same.l0]
    rw [if_neg (by omega)]
  | succ d ih =>
    intro i k h1 h2 hk
    obtain ⟨k, rfl⟩ : ∃ m, k = m + 1 := ⟨k - 1, by omega⟩
    simp only [lessorref09_Same.l0]
    by_cases h : i < l.length
    · rw [if_pos (by omega), if_pos (by omega), if_pos (by omega), if_pos trivial, wrap_smallS (by omega) (by omega)]
      exact ih (i + 1) k (by omega) (by omega) (by omega)
    · rw [if_neg (by omega)]

theorem frGo_len (b : List Int) : ∀ (j a : Nat), (frGo b j a).length ≤ j := by
  intro j
  induction j with
  | zero => intro a; simp [frGo]
  | succ j ih => intro a; simp only [frGo]; split <;> simp; exact ih _

theorem FrameScans : lessorlaw09_FrameScans.Pure := by
  intro l h1 h2 h3
  refine ⟨l.length + 3, ?_⟩
  unfold lessorlaw09_FrameScans.f
  rw [awakeS]
  simp only [Option.bind_some, if_true, lessorlaw09_FrameScans.j0]
  split
  · rfl
  · rename_i hg
    have hlen0 : (l.length : Int) ≤ 5000 := by simpa using hg
    have hlen : l.length ≤ 5000 := by omega
    have hb : ∀ x ∈ l, 0 ≤ x ∧ x ≤ 255 := fun x hx => u8_wfS (h3 x hx)
    have hs : frame_Scan.f l = some (frScan l) := by unfold frame_Scan.f; rw [if_pos ⟨by omega, hb⟩]
    have hr : lessorref09_Scan.f (l.length + 2) l = some (frScan l) := by
      unfold lessorref09_Scan.f
      have := ref_scan l hb (by omega) l.length 0 [] (l.length + 2) (by omega) (by omega) (by omega) (by simp)
      rw [usedFrom_zero] at this
      simpa [frScan] using this
    rw [hs, hr]
    simp only [Option.bind_some]
    have hsm : lessorref09_Same.f (l.length + 2) (frScan l).1 (frScan l).1 = some true := by
      unfold lessorref09_Same.f
      rw [if_pos rfl]
      have hl := frGo_len l l.length 0
      have hx : (frScan l).1.length ≤ l.length := by simpa [frScan] using hl
      exact same_refl (frScan l).1 (by omega) (frScan l).1.length 0 (l.length + 2) (by omega) (by omega) (by omega)
    rw [hsm]
    simp

end Go.Proofs.Ytaompkmdhhjplaa.Pure
