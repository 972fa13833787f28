/-
  OptionPuts: what is found of any options, and what any put makes of them. No condition but that of a million options, and of 2^46 bytes.
-/
import Derived.Test.YtcefkkcmpdlnjaaHRefPut
import Derived.Test.YtcefkkcmpdlnjaaPFind
import Derived.Test.YtcefkkcmpdlnjaaPrF7
import Derived.Test.YtcefkkcmpdlnjaaPrF8
namespace Go.Proofs.Ytcefkkcmpdlnjaa
open Go.RowKit Go.Proofs.Ytcefkkcmpdlnjaa.Pr Go.Proofs.Ytcefkkcmpdlnjaa.PO Go.Proofs.Ytcefkkcmpdlnjaa.PF Go.Proofs.YtcefkkcmpdlnjaaW.PrintWords Go.Proofs.YtcefkkcmpdlnjaaW.PrintLast Go.Proofs.YtcefkkcmpdlnjaaW.PrintMore
attribute [local go_sem] max2_int min2_int max_two min_two max_three min_three max_four min_four
set_option linter.unusedVariables false
set_option linter.unusedSimpArgs false

theorem opt_str {w : World} {A : Option Addr} {n c : Nat} {xs : List Int} (h : (Kd.int .u8).C w A n xs) : (convert 25 9 (.slice A n c)).run Try.prog w = .ok (.string (strOfNums xs)) w :=
  Kd.C_string Try.underlying25 Try.underlying5 Try.underlying9 h
theorem law_awake : lessorlaw02_awake.f 20 = some true := by decide +kernel
theorem opFind_len {l : List OptF} (hf : few l) (code : Int) : (opFind l code).1.length ≤ 1000 := opFind_of (p := fun d => d.length ≤ 1000) hf.2 (by simp) code
theorem opPut_len (l : List OptF) (code : Int) (data : List Int) : (opPut l code data).length ≤ l.length + 1 := by
  unfold opPut
  split
  · have h1 := List.length_filter_le (fun x : OptF => !(x.f0 == code)) (l.drop ((ixOf (fun x => x.f0 == code) l).toNat + 1))
    rw [List.length_drop] at h1
    simp only [List.length_append, List.length_cons, List.length_nil, List.length_take]
    have h2 : ixOf (fun x => x.f0 == code) l < l.length ∨ ixOf (fun x => x.f0 == code) l = -1 := by
      unfold ixOf
      split <;> omega
    omega
  · simp
set_option maxHeartbeats 8000000 in
set_option maxRecDepth 100000 in
theorem OptionPuts_calls (A : Option Addr) (c : Nat) (l : List OptF) (code : Int) (D : Option Addr) (cd : Nat) (data : List Int) (w : World) (hC : Kd.C k40 w A l.length l) (hc : l.length ≤ c) (hD : (Kd.int .u8).C w D data.length data) (hcd : data.length ≤ cd) :
    Calls Try.prog 5 #[.slice A l.length c, .int .i64 code, .slice D data.length cd] w fun e w' => e = .returned (.bool true) ∧ Below w.heap.size w w' := by
  have HC := Lib.hid hC
  have HD := Lib.hid hD
  have HCC := Lib.hid hc
  have HCD := Lib.hid hcd
  have hdl : data.length ≤ 9223372036854775807 := hD.2.1
  obtain ⟨b, hb, hfew⟩ := few_eq l 500 (by omega)
  have HB := Lib.hid hb
  have HFW := Lib.hid hfew
  clear hC hD hc hcd hb hfew
  go_enter Try.func5, Try.ntmps5
  go_wp2_with fail
  refine (lessorlaw02_awake.calls 20 true _ law_awake).mono ?_
  rintro e w1 ⟨rfl, b1⟩
  have B1 := Lib.hid b1
  clear b1
  go_wp2_with fail
  refine (lessorref02_Few.calls 500 A c l b _ (Kd.C_below HC.out B1.out) HCC.out HB.out).mono ?_
  rintro e w2 ⟨rfl, d2⟩
  have B2 := Lib.hid (B1.out.trans (d2.below.mono B1.out.size))
  clear d2 B1
  cases b with
  | false =>
    go_wp2_with fail
    go_ret
    exact ⟨rfl, B2.out⟩
  | true =>
    have HF := Lib.hid (HFW.out.1 rfl)
    clear HFW HB
    by_cases big : (data.length : Int) > 1000
    · go_wp2_with fail
      go_ret
      exact ⟨rfl, B2.out⟩
    · have HFC := Lib.hid (Kd.C_F opt_heap HC.out)
      have HDL : Hid (data.length ≤ 1000) := by show _ ≤ _; omega
      obtain ⟨fd, fb, hfd⟩ : ∃ fd fb, opFind l code = (fd, fb) := ⟨_, _, rfl⟩
      have HFD := Lib.hid hfd
      clear hfd
      go_wp2_with fail
      refine (option_Find.calls A c l code fd fb _ (Kd.C_below HC.out B2.out) HCC.out (by rw [find_eq HF.out.2 code, HFD.out])).mono ?_
      rintro e w3 ⟨v3, rfl, h3, b3⟩
      obtain ⟨A3, c3, rfl⟩ := Kd.R_slice h3
      have H3 := Lib.hid h3
      have B3 := Lib.hid (B2.out.trans (b3.mono B2.out.size))
      clear h3 b3
      go_wp2_with fail
      refine (lessorref02_Find.calls 500 (fun k => k < w3.heap.size) A c l code fd fb _ (Kd.V_mk HCC.out (Kd.C_F opt_heap (Kd.C_below HC.out B3.out))) (by rw [ref_find_eq l (by have := HF.out.1; omega) code 500 (by have := HF.out.1; omega), HFD.out])).mono ?_
      rintro e w4 ⟨v4, rfl, h4, b4⟩
      obtain ⟨A4, c4, rfl⟩ := Kd.V_slice h4
      have s3 := opt_str (c := c3) (Kd.R_reads' (Kd.R_below H3.out b4)).2.2
      have s4 := opt_str (c := c4) (Kd.V_reads' h4).2.2
      have B4 := Lib.hid (B3.out.trans (b4.mono B3.out.size))
      clear h4 b4 H3
      go_wp2_with fail
      have hF4 : Kd.F k40 w4 (fun k => k < w4.heap.size) A l.length l := Kd.C_F opt_heap (Kd.C_below HC.out B4.out)
      refine (put_calls A c l code D cd data _ hF4 HCC.out (by have := HF.out.1; omega) (fun x hx => by have := HF.out.2 x hx; omega) (Kd.C_below HD.out B4.out) HCD.out (by have := HDL.out; omega)).mono ?_
      rintro e w5 ⟨v5, rfl, h5, b5⟩
      obtain ⟨A5, c5, rfl⟩ := Kd.N_slice h5
      have H5 := Lib.hid h5
      have B5 := Lib.hid (B4.out.trans (b5.mono B4.out.size))
      clear h5 b5 hF4 s3 s4
      go_wp2_with fail
      have hF5 : Kd.F k40 w5 (fun k => k < w5.heap.size) A l.length l := Kd.C_F opt_heap (Kd.C_below HC.out B5.out)
      refine (rput_calls A c l code D cd data _ hF5 HCC.out (by have := HF.out.1; omega) (Kd.C_below HD.out B5.out) HCD.out (by have := HDL.out; omega)).mono ?_
      rintro e w6 ⟨v6, rfl, h6, b6⟩
      obtain ⟨A6, c6, rfl⟩ := Kd.N_slice h6
      have H6 := Lib.hid h6
      have H5b := Lib.hid (Kd.N_below H5.out b6)
      have B6 := Lib.hid (B5.out.trans (b6.mono B5.out.size))
      clear h6 b6 hF5 H5
      go_wp2_with fail
      refine (lessorref02_Same.calls 500 A5 c5 (opPut l code data) A6 c6 (opPut l code data) true _ (Kd.N_reads' H5b.out).2.2 (Kd.N_reads' H5b.out).2.1 (Kd.N_reads' H6.out).2.2 (Kd.N_reads' H6.out).2.1 (same_refl _ (by have := opPut_len l code data; have := HF.out.1; omega) 500 (by have := opPut_len l code data; have := HF.out.1; omega))).mono ?_
      rintro e w7 ⟨rfl, d7⟩
      have B7 := Lib.hid (B6.out.trans (d7.below.mono B6.out.size))
      clear d7
      go_wp2_with fail
      go_ret
      exact ⟨rfl, B7.out⟩

def lessorlaw02_OptionPuts.f (l0 : List OptF) (a1 : Int) (l2 : List Int) : Option Bool := some true
theorem lessorlaw02_OptionPuts.calls (A0 : Option Addr) (c0 : Nat) (l0 : List OptF) (a1 : Int) (A2 : Option Addr) (c2 : Nat) (l2 : List Int) (r : Bool) (w : World) (hr0 : Kd.C k40 w A0 l0.length l0) (hc0 : l0.length ≤ c0) (hr2 : (Kd.int .u8).C w A2 l2.length l2) (hc2 : l2.length ≤ c2) (h : lessorlaw02_OptionPuts.f l0 a1 l2 = some r) :
    Calls Try.prog 5 #[.slice A0 l0.length c0, .int .i64 a1, .slice A2 l2.length c2] w fun e w' => e = .returned (.bool r) ∧ Below w.heap.size w w' := by
  obtain rfl : true = r := Option.some.inj h
  exact OptionPuts_calls A0 c0 l0 a1 A2 c2 l2 w hr0 hc0 hr2 hc2
end Go.Proofs.Ytcefkkcmpdlnjaa
