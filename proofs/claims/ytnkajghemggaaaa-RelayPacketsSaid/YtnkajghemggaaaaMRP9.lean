/-
  relay.Strip in the print's form. Condition: few options, of bytes.
  Printed: PrF9.
  Packets handed on and handed back, over lists: what the reference's Strip and Same compute of few options.
-/
import Derived.Test.YtnkajghemggaaaaMRP4
import Derived.Test.YtnkajghemggaaaaMRP2
import Derived.Test.YtnkajghemggaaaaMRP1

section
namespace Go.Proofs.Ytnkajghemggaaaa
open Go.RowKit Go.Proofs.Ytnkajghemggaaaa.Pr Go.Proofs.YtnkajghemggaaaaW.PrintWords Go.Proofs.YtnkajghemggaaaaW.PrintLast Go.Proofs.YtnkajghemggaaaaW.PrintMore
attribute [local go_sem] max2_int min2_int max_two min_two max_three min_three max_four min_four
set_option linter.unusedVariables false
set_option linter.unusedSimpArgs false

/-- The door of Strip. -/
theorem strip_ret {R : Ending → World → Prop} {tmps : Array Value} {W : World} {br : Nat} {a0 a1 a2 a3 a4 a5 a6 a7 z : Int} {A8 A9 At : Option Addr} {n8 c8 n9 c9 nt ct : Nat} (h2 : tmps[2]? = some (.pointer (some ⟨br, 0, none⟩))) (h3 : tmps[3]? = some (.slice At nt ct)) (h4 : tmps[4]? = some (.int .i64 z))
    (h : W.heap[br]? = some (.cells #[.int .i64 a0, .int .u32 a1, .int .i64 a2, .int .i64 a3, .int .u32 a4, .int .u32 a5, .int .u32 a6, .int .u32 a7, .slice A8 n8 c8, .slice A9 n9 c9] 28 (0, 0)))
    (hR : R (.returned (.tuple #[.agg #[.int .i64 a0, .int .u32 a1, .int .i64 a2, .int .i64 a3, .int .u32 a4, .int .u32 a5, .int .u32 a6, .int .u32 a7, .slice A8 n8 c8, .slice A9 n9 c9], .slice At nt ct, .int .i64 z])) W) :
    bodyPost Try.prog Try.f21 R .ret { tmps := tmps, defers := [] } W := by
  have y0 := (blk_cell h 0).trans rfl
  have y1 := (blk_cell h 1).trans rfl
  have y2 := (blk_cell h 2).trans rfl
  have y3 := (blk_cell h 3).trans rfl
  have y4 := (blk_cell h 4).trans rfl
  have y5 := (blk_cell h 5).trans rfl
  have y6 := (blk_cell h 6).trans rfl
  have y7 := (blk_cell h 7).trans rfl
  have y8 := (blk_cell h 8).trans rfl
  have y9 := (blk_cell h 9).trans rfl
  refine bodyPost_ret (v := .tuple #[.agg #[.int .i64 a0, .int .u32 a1, .int .i64 a2, .int .i64 a3, .int .u32 a4, .int .u32 a5, .int .u32 a6, .int .u32 a7, .slice A8 n8 c8, .slice A9 n9 c9], .slice At nt ct, .int .i64 z]) ?_ rfl hR
  simp [results, Try.results21, go_sem, h2, h3, h4, y0, y1, y2, y3, y4, y5, y6, y7, y8, y9]
theorem tag1_calls (n : Int) (A1 : Option Addr) (m c1 : Nat) (W : World) : Calls Try.prog 34 #[.agg #[.int .i64 n, .slice A1 m c1]] W fun e W' => e = .returned (.bool (n == 82)) ∧ Below W.heap.size W W' := by
  have y2 := (blk_cell (blk_new W (.cells #[.int .i64 n, .slice A1 m c1] 48)) 0).trans rfl
  go_enter Try.func34, Try.ntmps34
  go_wp2_with fail
  go_ret
  exact ⟨rfl, below_alloc (Below.refl _ _) _⟩
theorem enters_tag : ∀ args w, (callFunc 34 args).run Try.prog w = .ok (.enter 34 args) w := fun args w => enters_ Try.func34 (by kernel_rfl) rfl args w
/-- What Strip hands back. -/
abbrev StT := Int × Int × Int × Int × Int × Int × Int × Int × List Int × List OptF × List OptF × Int
abbrev stNo (e : Int) : StT := (0, 0, 0, 0, 0, 0, 0, 0, [], [], [], e)
def stripR (a0 a1 a2 a3 a4 a5 a6 a7 : Int) (l8 : List Int) (l9 : List OptF) : StT :=
  if PP.okPk a0 a2 a3 l8 l9 ∧ a0 = 2 then
    if (opFind l9 82).2 = true then
      if (PL.decR (opFind l9 82).1).2 = 0 then (a0, a1, a2, a3, a4, a5, a6, 0, l8, l9.filter (fun x => !(x.f0 == 82)), (PL.decR (opFind l9 82).1).1, 0) else stNo (PL.decR (opFind l9 82).1).2
    else stNo 4
  else stNo 1
def bytesO (l : List OptF) : Prop := ∀ x ∈ l, ∀ y ∈ x.f1, 0 ≤ y ∧ y ≤ 255
instance (l : List OptF) : Decidable (bytesO l) := by unfold bytesO; infer_instance
def relay_Strip.f (a0 a1 a2 a3 a4 a5 a6 a7 : Int) (l8 : List Int) (l9 : List OptF) : Option StT := if fewP l8 l9 ∧ bytesO l9 then some (stripR a0 a1 a2 a3 a4 a5 a6 a7 l8 l9) else none
theorem opFind_all {l : List OptF} {p : List Int → Prop} (h : ∀ x ∈ l, p x.f1) (h0 : p []) : p (opFind l 82).1 := by
  unfold opFind
  split
  · rename_i x hx
    exact h x (List.mem_of_find?_eq_some hx)
  · exact h0
set_option maxHeartbeats 8000000 in
set_option maxRecDepth 100000 in
theorem relay_Strip.calls (a0_0 a0_1 a0_2 a0_3 a0_4 a0_5 a0_6 a0_7 : Int) (A0_8 : Option Addr) (c0_8 : Nat) (l0_8 : List Int) (P0_9_ : Nat → Prop) (A0_9 : Option Addr) (c0_9 : Nat) (l0_9 : List OptF) (r1 r2 r3 r4 r5 r6 r7 r8 : Int) (r9 : List Int) (r10 r11 : List OptF) (r12 : Int) (w : World)
    (hr0_8 : (Kd.int .u8).C w A0_8 l0_8.length l0_8) (hc0_8 : l0_8.length ≤ c0_8) (hs0_9 : Kd.V k48 48 w w.heap.size (fun k_ => P0_9_ k_) (.slice A0_9 l0_9.length c0_9) l0_9)
    (h : relay_Strip.f a0_0 a0_1 a0_2 a0_3 a0_4 a0_5 a0_6 a0_7 l0_8 l0_9 = some (r1, r2, r3, r4, r5, r6, r7, r8, r9, r10, r11, r12)) :
    Calls Try.prog 21 #[.agg #[.int .i64 a0_0, .int .u32 a0_1, .int .i64 a0_2, .int .i64 a0_3, .int .u32 a0_4, .int .u32 a0_5, .int .u32 a0_6, .int .u32 a0_7, .slice A0_8 l0_8.length c0_8, .slice A0_9 l0_9.length c0_9]] w fun e w' =>
      ∃ v8_ v9_ v10_ : Value, e = .returned (.tuple #[.agg #[.int .i64 r1, .int .u32 r2, .int .i64 r3, .int .i64 r4, .int .u32 r5, .int .u32 r6, .int .u32 r7, .int .u32 r8, v8_, v9_], v10_, .int .i64 r12]) ∧ Kd.R (Kd.int .u8) 5 w' w.heap.size (fun _ => True) v8_ r9 ∧
        Kd.N k48 48 w' w.heap.size (fun k_ => (P0_9_ k_ ∨ w.heap.size ≤ k_) ∧ some k_ ≠ v8_.ownBlock ∧ some k_ ≠ v10_.ownBlock) v9_ r10 ∧
        Kd.N k48 48 w' w.heap.size (fun k_ => (P0_9_ k_ ∨ w.heap.size ≤ k_) ∧ some k_ ≠ v8_.ownBlock ∧ some k_ ≠ v9_.ownBlock) v10_ r11 ∧ Below w.heap.size w w' := by
  unfold relay_Strip.f at h
  split at h
  case isFalse => cases h
  rename_i hcond
  obtain ⟨hfp, hby⟩ := hcond
  have h := Option.some.inj h
  obtain ⟨_, hc9, hC9⟩ := Kd.V_reads' hs0_9
  have hF9 := Kd.F_bound (Kd.V_F hs0_9)
  have hl9 : ∀ x ∈ l0_9, x.f1.length < 140737488355328 := fun x hx => by have := hfp.2.2 x hx; omega
  have hn8 : l0_8.length < 140737488355328 := by have := hfp.1; omega
  have bad : ∀ (z : Int) {e : Ending} {w' : World}, e = .returned (.tuple #[.agg pkNil, .slice none 0 0, .int .i64 z]) ∧ Below w.heap.size w w' → stNo z = (r1, r2, r3, r4, r5, r6, r7, r8, r9, r10, r11, r12) → ∃ v8_ v9_ v10_ : Value, e = .returned (.tuple #[.agg #[.int .i64 r1, .int .u32 r2, .int .i64 r3, .int .i64 r4, .int .u32 r5, .int .u32 r6, .int .u32 r7, .int .u32 r8, v8_, v9_], v10_, .int .i64 r12]) ∧ Kd.R (Kd.int .u8) 5 w' w.heap.size (fun _ => True) v8_ r9 ∧         Kd.N k48 48 w' w.heap.size (fun k_ => (P0_9_ k_ ∨ w.heap.size ≤ k_) ∧ some k_ ≠ v8_.ownBlock ∧ some k_ ≠ v10_.ownBlock) v9_ r10 ∧         Kd.N k48 48 w' w.heap.size (fun k_ => (P0_9_ k_ ∨ w.heap.size ≤ k_) ∧ some k_ ≠ v8_.ownBlock ∧ some k_ ≠ v9_.ownBlock) v10_ r11 ∧ Below w.heap.size w w' := by
    rintro z e w' ⟨he, hb⟩ hz
    simp only [stNo, Prod.mk.injEq] at hz
    obtain ⟨rfl, rfl, rfl, rfl, rfl, rfl, rfl, rfl, rfl, rfl, rfl, rfl⟩ := hz
    exact ⟨_, _, _, he, Kd.R_nil _ _ _ _ _, Kd.N_nil _ _ _ _ _, Kd.N_nil _ _ _ _ _, hb⟩
  have hR : ∀ (rt : Bool), rt = decide (PP.okPk a0_0 a0_2 a0_3 l0_8 l0_9) → ∀ W, Below w.heap.size w W → Calls Try.prog 28 #[.agg #[.int .i64 a0_0, .int .u32 a0_1, .int .i64 a0_2, .int .i64 a0_3, .int .u32 a0_4, .int .u32 a0_5, .int .u32 a0_6, .int .u32 a0_7, .slice A0_8 l0_8.length c0_8, .slice A0_9 l0_9.length c0_9]] W fun e w' => e = .returned (.bool rt) ∧ Below W.heap.size W w' :=
    fun rt hrt W hW => rightC _ _ _ _ _ _ _ _ _ _ _ _ _ _ W (Kd.C_below hr0_8 hW) hc0_8 (Kd.C_below hC9 hW) hc9 (fewP_po hfp) rt hrt
  obtain ⟨fd, fb, hfd⟩ : ∃ fd fb, opFind l0_9 82 = (fd, fb) := ⟨_, _, rfl⟩
  have hfdb : ∀ y ∈ fd, 0 ≤ y ∧ y ≤ 255 := by have := opFind_all (p := fun d => ∀ y ∈ d, 0 ≤ y ∧ y ≤ 255) hby (by simp); rwa [hfd] at this
  have hfdl : fd.length ≤ 1000 := by have := opFind_all (p := fun d => d.length ≤ 1000) hfp.2.2 (by simp); rwa [hfd] at this
  have hFI : ∀ W, Below w.heap.size w W → Calls Try.prog 29 #[.slice A0_9 l0_9.length c0_9, .int .i64 82] W fun e w' => ∃ v0_ : Value, e = .returned (.tuple #[v0_, .bool fb]) ∧ Kd.R (Kd.int .u8) 5 w' W.heap.size (fun _ => True) v0_ fd ∧ Below W.heap.size W w' :=
    fun W hW => option_Find.calls A0_9 c0_9 l0_9 82 fd fb W (Kd.C_below hC9 hW) hc9 (by unfold option_Find.f; rw [if_pos hl9, hfd])
  unfold stripR at h
  rw [hfd] at h
  dsimp only at h
  obtain ⟨tg, z, htz⟩ : ∃ tg z, PL.decR fd = (tg, z) := ⟨_, _, rfl⟩
  rw [htz] at h
  dsimp only at h
  have hDE : ∀ (A : Option Addr) (c : Nat) (W : World), (Kd.int .u8).C W A fd.length fd → fd.length ≤ c → Calls Try.prog 15 #[.slice A fd.length c] W fun e w' => ∃ v0_ : Value, e = .returned (.tuple #[v0_, .int .i64 z]) ∧ Kd.S k48 48 w' W.heap.size (fun _ => True) v0_ tg ∧ Below W.heap.size W w' :=
    fun A c W hC hc => relay_Decode.calls A c fd tg z W hC hc (by rw [PL.decode_eq fd hfdb (by omega), htz])
  obtain ⟨lf, hlf⟩ : ∃ lf, lf = l0_9.filter (fun x : OptF => !(x.f0 == 82)) := ⟨_, rfl⟩
  rw [← hlf] at h
  have hlfl : lf.length ≤ l0_9.length := by rw [hlf]; exact List.length_filter_le _ _
  have hlfd : ∀ x ∈ lf, x.f1.length < 140737488355328 := fun x hx => hl9 x (by rw [hlf] at hx; exact (List.mem_filter.1 hx).1)
  obtain ⟨rt, hrt⟩ : ∃ rt, rt = decide (PP.okPk a0_0 a0_2 a0_3 l0_8 l0_9) := ⟨_, rfl⟩
  have HR := Lib.hid (hR rt hrt)
  have HFI := Lib.hid hFI
  have HDE := Lib.hid hDE
  have HRES := Lib.hid h
  have HRT := Lib.hid hrt
  have HF9 := Lib.hid hF9
  have HFP := Lib.hid hfp
  have HC8 := Lib.hid hr0_8
  have HLF := Lib.hid hlf
  have HLFL := Lib.hid hlfl
  have HLFD := Lib.hid hlfd
  have BAD := Lib.hid (fun z e w' => @bad z e w')
  clear hR hFI hDE h hrt hfd htz hF9 hfp hby hfdb hfdl hl9 hC9 hs0_9 bad hr0_8 hlf hlfl hlfd
  go_enter Try.func21, Try.ntmps21
  go_upto_region 1 with fail
  obtain ⟨bp, hbp⟩ : ∃ b, w.heap.size = b := ⟨_, rfl⟩
  obtain ⟨br, hbr⟩ : ∃ b, bp + 1 = b := ⟨_, rfl⟩
  obtain ⟨w1, hw1⟩ : ∃ W, (w.alloc (.cells #[.int .i64 a0_0, .int .u32 a0_1, .int .i64 a0_2, .int .i64 a0_3, .int .u32 a0_4, .int .u32 a0_5, .int .u32 a0_6, .int .u32 a0_7, .slice A0_8 l0_8.length c0_8, .slice A0_9 l0_9.length c0_9] 28)).alloc (.cells pkNil 28) = W := ⟨_, rfl⟩
  have HP : Hid (w1.heap[bp]? = some (.cells #[.int .i64 a0_0, .int .u32 a0_1, .int .i64 a0_2, .int .i64 a0_3, .int .u32 a0_4, .int .u32 a0_5, .int .u32 a0_6, .int .u32 a0_7, .slice A0_8 l0_8.length c0_8, .slice A0_9 l0_9.length c0_9] 28 (0, 0))) := by
    show _ = _
    rw [← hw1, ← hbp]
    exact (Below.heap_alloc _ _ _ (by simp)).trans (blk_new _ _)
  have HZ : Hid (w1.heap[br]? = some (.cells pkNil 28 (0, 0))) := by
    show _ = _
    rw [← hw1, ← hbr, ← hbp]
    have := blk_new (w.alloc (.cells #[.int .i64 a0_0, .int .u32 a0_1, .int .i64 a0_2, .int .i64 a0_3, .int .u32 a0_4, .int .u32 a0_5, .int .u32 a0_6, .int .u32 a0_7, .slice A0_8 l0_8.length c0_8, .slice A0_9 l0_9.length c0_9] 28)) (.cells pkNil 28)
    rwa [World.size_alloc] at this
  have HB1 : Hid (Below w.heap.size w w1) := by show Below _ _ _; rw [← hw1]; exact below_alloc (below_alloc (Below.refl _ _) _) _
  have HBP : Hid (w.heap.size ≤ bp ∧ bp < br) := ⟨by omega, by omega⟩
  rw [hbp, hbr]
  change Code.wp _ _ _ _ ((w.alloc (.cells #[.int .i64 a0_0, .int .u32 a0_1, .int .i64 a0_2, .int .i64 a0_3, .int .u32 a0_4, .int .u32 a0_5, .int .u32 a0_6, .int .u32 a0_7, .slice A0_8 l0_8.length c0_8, .slice A0_9 l0_9.length c0_9] 28)).alloc (.cells pkNil 28))
  rw [hw1]
  clear hw1 hbp hbr
  have y0 := (blk_cell HP.out 0).trans rfl
  have y1 := (blk_cell HP.out 1).trans rfl
  have y2 := (blk_cell HP.out 2).trans rfl
  have y3 := (blk_cell HP.out 3).trans rfl
  have y4 := (blk_cell HP.out 4).trans rfl
  have y5 := (blk_cell HP.out 5).trans rfl
  have y6 := (blk_cell HP.out 6).trans rfl
  have y7 := (blk_cell HP.out 7).trans rfl
  have y8 := (blk_cell HP.out 8).trans rfl
  have y9 := (blk_cell HP.out 9).trans rfl
  go_wp2_with fail
  refine (HR.out _ HB1.out).mono ?_
  rintro e w2 ⟨rfl, hb2⟩
  have HP2 : Hid (_ = some _) := (hb2.block bp (blk_lt HP.out)).trans HP.out
  have HZ2 : Hid (_ = some _) := (hb2.block br (blk_lt HZ.out)).trans HZ.out
  have HB2 := Lib.hid (HB1.out.trans (hb2.mono HB1.out.size))
  clear y0 y1 y2 y3 y4 y5 y6 y7 y8 y9 HP HZ HB1 hb2 HR
  have y0 := (blk_cell HP2.out 0).trans rfl
  have u0_ := (blk_cell HZ2.out 0).trans rfl
  have f0_ := blk_frozen HZ2.out 0
  have u1_ := (blk_cell HZ2.out 1).trans rfl
  have f1_ := blk_frozen HZ2.out 1
  have u2_ := (blk_cell HZ2.out 2).trans rfl
  have f2_ := blk_frozen HZ2.out 2
  have u3_ := (blk_cell HZ2.out 3).trans rfl
  have f3_ := blk_frozen HZ2.out 3
  have u4_ := (blk_cell HZ2.out 4).trans rfl
  have f4_ := blk_frozen HZ2.out 4
  have u5_ := (blk_cell HZ2.out 5).trans rfl
  have f5_ := blk_frozen HZ2.out 5
  have u6_ := (blk_cell HZ2.out 6).trans rfl
  have f6_ := blk_frozen HZ2.out 6
  have u7_ := (blk_cell HZ2.out 7).trans rfl
  have f7_ := blk_frozen HZ2.out 7
  have u8_ := (blk_cell HZ2.out 8).trans rfl
  have f8_ := blk_frozen HZ2.out 8
  have u9_ := (blk_cell HZ2.out 9).trans rfl
  have f9_ := blk_frozen HZ2.out 9
  cases rt with
  | false =>
    have HX := Lib.hid (show ¬ PP.okPk a0_0 a0_2 a0_3 l0_8 l0_9 from of_decide_eq_false HRT.out.symm)
    go_wp2_with fail
    exact strip_ret rfl rfl rfl (pk_set HZ2.out _ _ _ _ _ _ _ _ _ _) (BAD.out 1 _ _ ⟨rfl, pk_below HB2.out (by have := HBP.out; omega) _ _ _ _ _ _ _ _ _ _⟩ (by have hr := HRES.out; rwa [if_neg (fun c => HX.out c.1)] at hr))
  | true =>
    have HOKP := Lib.hid (show PP.okPk a0_0 a0_2 a0_3 l0_8 l0_9 from of_decide_eq_true HRT.out.symm)
    by_cases h0 : a0_0 = 2
    case neg =>
      have q0 : (a0_0 != 2) = true := bne_iff_ne.2 h0
      have HX := Lib.hid h0
      clear h0
      go_wp2_with fail
      exact strip_ret rfl rfl rfl (pk_set HZ2.out _ _ _ _ _ _ _ _ _ _) (BAD.out 1 _ _ ⟨rfl, pk_below HB2.out (by have := HBP.out; omega) _ _ _ _ _ _ _ _ _ _⟩ (by have hr := HRES.out; rwa [if_neg (fun c => HX.out c.2)] at hr))
    have q0 : (a0_0 != 2) = false := by rw [bne, beq_iff_eq.2 h0]; rfl
    have HRES2 := Lib.hid ((if_pos (⟨HOKP.out, h0⟩ : PP.okPk a0_0 a0_2 a0_3 l0_8 l0_9 ∧ a0_0 = 2)).symm.trans HRES.out)
    clear h0 HRES
    clear y0 u0_ f0_ u1_ f1_ u2_ f2_ u3_ f3_ u4_ f4_ u5_ f5_ u6_ f6_ u7_ f7_ u8_ f8_ u9_ f9_
    have y0 := (blk_cell HP2.out 0).trans rfl
    have y1 := (blk_cell HP2.out 1).trans rfl
    have y2 := (blk_cell HP2.out 2).trans rfl
    have y3 := (blk_cell HP2.out 3).trans rfl
    have y4 := (blk_cell HP2.out 4).trans rfl
    have y5 := (blk_cell HP2.out 5).trans rfl
    have y6 := (blk_cell HP2.out 6).trans rfl
    have y7 := (blk_cell HP2.out 7).trans rfl
    have y8 := (blk_cell HP2.out 8).trans rfl
    have y9 := (blk_cell HP2.out 9).trans rfl
    have u0_ := (blk_cell HZ2.out 0).trans rfl
    have f0_ := blk_frozen HZ2.out 0
    have u1_ := (blk_cell HZ2.out 1).trans rfl
    have f1_ := blk_frozen HZ2.out 1
    have u2_ := (blk_cell HZ2.out 2).trans rfl
    have f2_ := blk_frozen HZ2.out 2
    have u3_ := (blk_cell HZ2.out 3).trans rfl
    have f3_ := blk_frozen HZ2.out 3
    have u4_ := (blk_cell HZ2.out 4).trans rfl
    have f4_ := blk_frozen HZ2.out 4
    have u5_ := (blk_cell HZ2.out 5).trans rfl
    have f5_ := blk_frozen HZ2.out 5
    have u6_ := (blk_cell HZ2.out 6).trans rfl
    have f6_ := blk_frozen HZ2.out 6
    have u7_ := (blk_cell HZ2.out 7).trans rfl
    have f7_ := blk_frozen HZ2.out 7
    have u8_ := (blk_cell HZ2.out 8).trans rfl
    have f8_ := blk_frozen HZ2.out 8
    have u9_ := (blk_cell HZ2.out 9).trans rfl
    have f9_ := blk_frozen HZ2.out 9
    go_wp2_with fail
    refine (HFI.out _ HB2.out).mono ?_
    rintro e w4 ⟨v4, rfl, hv4, hb4⟩
    obtain ⟨Af, cf, rfl⟩ := Kd.R_slice hv4
    have HP4 : Hid (_ = some _) := (hb4.block bp (blk_lt HP2.out)).trans HP2.out
    have HZ4 : Hid (_ = some _) := (hb4.block br (blk_lt HZ2.out)).trans HZ2.out
    have HB4 := Lib.hid (HB2.out.trans (hb4.mono HB2.out.size))
    have HV4 := Lib.hid hv4
    clear u0_ f0_ u1_ f1_ u2_ f2_ u3_ f3_ u4_ f4_ u5_ f5_ u6_ f6_ u7_ f7_ u8_ f8_ u9_ f9_ y0 y1 y2 y3 y4 y5 y6 y7 y8 y9 hb4 hv4 HFI
    have u0_ := (blk_cell HZ4.out 0).trans rfl
    have f0_ := blk_frozen HZ4.out 0
    have u1_ := (blk_cell HZ4.out 1).trans rfl
    have f1_ := blk_frozen HZ4.out 1
    have u2_ := (blk_cell HZ4.out 2).trans rfl
    have f2_ := blk_frozen HZ4.out 2
    have u3_ := (blk_cell HZ4.out 3).trans rfl
    have f3_ := blk_frozen HZ4.out 3
    have u4_ := (blk_cell HZ4.out 4).trans rfl
    have f4_ := blk_frozen HZ4.out 4
    have u5_ := (blk_cell HZ4.out 5).trans rfl
    have f5_ := blk_frozen HZ4.out 5
    have u6_ := (blk_cell HZ4.out 6).trans rfl
    have f6_ := blk_frozen HZ4.out 6
    have u7_ := (blk_cell HZ4.out 7).trans rfl
    have f7_ := blk_frozen HZ4.out 7
    have u8_ := (blk_cell HZ4.out 8).trans rfl
    have f8_ := blk_frozen HZ4.out 8
    have u9_ := (blk_cell HZ4.out 9).trans rfl
    have f9_ := blk_frozen HZ4.out 9
    cases fb with
    | false =>
      go_wp2_with fail
      exact strip_ret rfl rfl rfl (pk_set HZ4.out _ _ _ _ _ _ _ _ _ _) (BAD.out 4 _ _ ⟨rfl, pk_below HB4.out (by have := HBP.out; omega) _ _ _ _ _ _ _ _ _ _⟩ (by have hr := HRES2.out; rwa [if_neg (by simp)] at hr))
    | true =>
      have HRES3 := Lib.hid ((if_pos (rfl : true = true)).symm.trans HRES2.out)
      clear HRES2
      clear u0_ f0_ u1_ f1_ u2_ f2_ u3_ f3_ u4_ f4_ u5_ f5_ u6_ f6_ u7_ f7_ u8_ f8_ u9_ f9_
      go_wp2_with fail
      refine (HDE.out Af cf _ (Kd.R_reads' HV4.out).2.2 (Kd.R_reads' HV4.out).2.1).mono ?_
      rintro e w5 ⟨v5, rfl, hv5, hb5⟩
      obtain ⟨At, ct, rfl⟩ := Kd.S_slice hv5
      have HP5 : Hid (w5.heap[bp]? = some (.cells #[.int .i64 a0_0, .int .u32 a0_1, .int .i64 a0_2, .int .i64 a0_3, .int .u32 a0_4, .int .u32 a0_5, .int .u32 a0_6, .int .u32 a0_7, .slice A0_8 l0_8.length c0_8, .slice A0_9 l0_9.length c0_9] 28 (0, 0))) := (hb5.block bp (blk_lt HP4.out)).trans HP4.out
      have HZ5 : Hid (w5.heap[br]? = some (.cells pkNil 28 (0, 0))) := (hb5.block br (blk_lt HZ4.out)).trans HZ4.out
      have HB5 := Lib.hid (HB4.out.trans (hb5.mono HB4.out.size))
      have HT5 := Lib.hid (Kd.S_lower (Kd.S_bound hv5) HB4.out.size)
      have HTB := Lib.hid hv5
      have HTN : Hid (∀ k, (True ∧ w4.heap.size ≤ k ∧ k < w5.heap.size ∧ ∃ q, q ∈ 48 :: k48.E ∧ ∃ cells, w5.heap[k]? = some (.cells cells q (0, 0))) → k ≠ bp ∧ k ≠ br) := fun k hk => by have h1 := blk_lt HP4.out; have h2 := blk_lt HZ4.out; exact ⟨by omega, by omega⟩
      have HS4 : Hid (w.heap.size ≤ w4.heap.size) := HB4.out.size
      clear hv5 hb5 HDE
      have u0_ := (blk_cell HZ5.out 0).trans rfl
      have f0_ := blk_frozen HZ5.out 0
      have u1_ := (blk_cell HZ5.out 1).trans rfl
      have f1_ := blk_frozen HZ5.out 1
      have u2_ := (blk_cell HZ5.out 2).trans rfl
      have f2_ := blk_frozen HZ5.out 2
      have u3_ := (blk_cell HZ5.out 3).trans rfl
      have f3_ := blk_frozen HZ5.out 3
      have u4_ := (blk_cell HZ5.out 4).trans rfl
      have f4_ := blk_frozen HZ5.out 4
      have u5_ := (blk_cell HZ5.out 5).trans rfl
      have f5_ := blk_frozen HZ5.out 5
      have u6_ := (blk_cell HZ5.out 6).trans rfl
      have f6_ := blk_frozen HZ5.out 6
      have u7_ := (blk_cell HZ5.out 7).trans rfl
      have f7_ := blk_frozen HZ5.out 7
      have u8_ := (blk_cell HZ5.out 8).trans rfl
      have f8_ := blk_frozen HZ5.out 8
      have u9_ := (blk_cell HZ5.out 9).trans rfl
      have f9_ := blk_frozen HZ5.out 9
      by_cases hz : z = 0
      case neg =>
        have q2 : (z != 0) = true := bne_iff_ne.2 hz
        have HX := Lib.hid hz
        clear hz
        go_wp2_with fail
        exact strip_ret rfl rfl rfl (pk_set HZ5.out _ _ _ _ _ _ _ _ _ _) (BAD.out z _ _ ⟨rfl, pk_below HB5.out (by have := HBP.out; omega) _ _ _ _ _ _ _ _ _ _⟩ (by have hr := HRES3.out; rwa [if_neg HX.out] at hr))
      subst hz
      have HRES4 := Lib.hid ((if_pos (rfl : (0 : Int) = 0)).symm.trans HRES3.out)
      clear HRES3
      clear u0_ f0_ u1_ f1_ u2_ f2_ u3_ f3_ u4_ f4_ u5_ f5_ u6_ f6_ u7_ f7_ u8_ f8_ u9_ f9_
      have e8 := (blk_cell HP5.out 8).trans rfl
      have e9 := (blk_cell HP5.out 9).trans rfl
      go_wp2_with fail
      refine start_ (n := 12) (S := fun w' => w'.cell? ⟨bp, 8, none⟩ = some (.slice A0_8 l0_8.length c0_8) ∧ w'.cell? ⟨bp, 9, none⟩ = some (.slice A0_9 l0_9.length c0_9)) (ds := [9, 11]) #[false, false, false, false, false, false, false, false, false, false, false, false] (by kernel_rfl) rfl rfl ⟨e8, e9⟩ (fun hHeld => ?_)
      obtain ⟨W2, hW2⟩ : ∃ W2, w5.drew = W2 := ⟨_, rfl⟩
      have hbw : Below w5.heap.size w5 W2 := by rw [← hW2]; exact below_drew (Below.refl _ _)
      rw [hW2] at hHeld ⊢
      clear hW2 e8 e9
      have HPW : Hid (W2.heap[bp]? = some (.cells #[.int .i64 a0_0, .int .u32 a0_1, .int .i64 a0_2, .int .i64 a0_3, .int .u32 a0_4, .int .u32 a0_5, .int .u32 a0_6, .int .u32 a0_7, .slice A0_8 l0_8.length c0_8, .slice A0_9 l0_9.length c0_9] 28 (0, 0))) := (hbw.block bp (blk_lt HP5.out)).trans HP5.out
      have HZW : Hid (W2.heap[br]? = some (.cells pkNil 28 (0, 0))) := (hbw.block br (blk_lt HZ5.out)).trans HZ5.out
      have HBW := Lib.hid (HB5.out.trans (hbw.mono HB5.out.size))
      have HTW := Lib.hid (Kd.S_below HT5.out hbw)
      have HS5 : Hid (w5.heap.size ≤ W2.heap.size) := hbw.size
      clear hbw HP5 HZ5 HB5 HT5
      obtain ⟨okn, hokn⟩ : ∃ ok : Nat → Prop, ok = fun k => (P0_9_ k ∧ k < w.heap.size) ∨ W2.heap.size ≤ k := ⟨_, rfl⟩
      have HOK : Hid (∀ k, W2.heap.size ≤ k → okn k) := fun k hk => by rw [hokn]; exact .inr hk
      have HOK9 : Hid (∀ k, P0_9_ k ∧ k < w.heap.size → okn k) := fun k hk => by rw [hokn]; exact .inl hk
      have HOKE := Lib.hid hokn
      clear hokn
      refine pure_ (i := 0) (N := some 39) (v := ?_) (a' := ?_) #[true, false, false, false, false, false, false, false, false, false, false, false] rfl rfl (by kernel_rfl) (fun _ _ _ h => h) (Or.inl ⟨by rfl, ?_⟩) ?_ ?_
      rotate_left
      · intro w'
        go_simp
        with_reducible rfl
      rotate_left
      · simp only [Act.put, List.setIfInBounds_toArray, List.set_cons_zero, List.set_cons_succ, i64_w, i32_w]
        rfl
      refine pure_ (i := 3) (N := some 42) (v := ?_) (a' := ?_) #[true, false, false, true, false, false, false, false, false, false, false, false] rfl rfl (by kernel_rfl) (fun _ _ _ h => h) (Or.inl ⟨by rfl, ?_⟩) ?_ ?_
      rotate_left
      · intro w'
        go_simp
        with_reducible rfl
      rotate_left
      · simp only [Act.put, List.setIfInBounds_toArray, List.set_cons_zero, List.set_cons_succ, i64_w, i32_w]
        rfl
      refine pure_ (i := 5) (N := some 44) (v := ?_) (a' := ?_) #[true, false, false, true, false, true, false, false, false, false, false, false] rfl rfl (by kernel_rfl) (fun _ _ _ h => h) (Or.inl ⟨by rfl, ?_⟩) ?_ ?_
      rotate_left
      · intro w'
        go_simp
        with_reducible rfl
      rotate_left
      · simp only [Act.put, List.setIfInBounds_toArray, List.set_cons_zero, List.set_cons_succ, i64_w, i32_w]
        rfl
      refine take_ (i := 1) (N := some 40) (v := .slice A0_9 l0_9.length c0_9) (a' := ?_) #[true, true, false, true, false, true, false, false, false, false, false, false] rfl rfl (by kernel_rfl) (fun _ _ _ h => h) (Or.inl ⟨by rfl, ?_⟩) hHeld ?_ ?_
      · rintro w' ⟨s0, s1⟩
        go_simp
        try (with_reducible rfl)
      rotate_left
      · simp only [Act.put, List.setIfInBounds_toArray, List.set_cons_zero, List.set_cons_succ, i64_w, i32_w]
        rfl
      refine take_ (i := 6) (N := some 45) (v := .slice A0_8 l0_8.length c0_8) (a' := ?_) #[true, true, false, true, false, true, true, false, false, false, false, false] rfl rfl (by kernel_rfl) (fun _ _ _ h => h) (Or.inl ⟨by rfl, ?_⟩) hHeld ?_ ?_
      · rintro w' ⟨s0, s1⟩
        go_simp
        try (with_reducible rfl)
      rotate_left
      · simp only [Act.put, List.setIfInBounds_toArray, List.set_cons_zero, List.set_cons_succ, i64_w, i32_w]
        rfl
      refine one_ (i := 2) (N := some 41) #[true, true, true, true, false, true, true, false, false, false, false, false] rfl rfl (by kernel_rfl) (by decide) (fun K hK => ?_)
      refine goes_ Try.func36 (by kernel_rfl) rfl #[.slice A0_9 l0_9.length c0_9] (by rfl) rfl rfl (by (try simp only [List.map_toArray, List.map_cons, List.map_nil]); rfl) ?_
      refine (oclone_ok okn A0_9 c0_9 l0_9 W2 (Kd.F_mono (Kd.F_below HF9.out HBW.out) HOK9.out) HOK.out hc9 (by have := HFP.out.2.1; omega)).mono ?_
      rintro e w6 ⟨v6, rfl, hn6, hb6⟩
      have HN6 := Lib.hid hn6
      have HW6 := Lib.hid hb6
      clear hn6 hb6 hHeld
      refine ⟨_, rfl, ?_⟩
      refine hK.out _ _ ⟨pw_cell_below HW6.out ((blk_cell HPW.out 8).trans rfl), pw_cell_below HW6.out ((blk_cell HPW.out 9).trans rfl)⟩ (fun hHeld => ?_)
      clear hK K
      try (refine norm_ (a' := ?_) ?_ ?_; rotate_left; focus (simp only [Act.put, List.setIfInBounds_toArray, List.set_cons_zero, List.set_cons_succ, i64_w, i32_w]; rfl))
      refine one_ (i := 4) (N := some 43) #[true, true, true, true, true, true, true, false, false, false, false, false] rfl rfl (by kernel_rfl) (by decide) (fun K hK => ?_)
      refine goes_ Try.func35 (by kernel_rfl) rfl #[v6, .func (.func 34) #[] #[]] (by rfl) rfl rfl (by (try simp only [List.map_toArray, List.map_cons, List.map_nil]); rfl) ?_
      refine (del_ok okn (fun x => x.f0 == 82) 34 #[] enters_tag v6 l0_9 w6 W2.heap.size HN6.out (by have := HFP.out.2.1; omega) (fun x A1 c1 W hW => tag1_calls x.f0 A1 _ c1 W)).mono ?_
      rintro e w8 ⟨v8, rfl, hn8', hf8⟩
      rw [← HLF.out] at hn8'
      obtain ⟨A4, c4, rfl⟩ := Kd.N_slice hn8'
      have HN8 := Lib.hid hn8'
      have HW8 : Hid (Below W2.heap.size W2 w8) := HW6.out.trans (hf8.to_below HW6.out.size (fun k hk => Kd.N_base HN6.out k hk))
      clear hn8' hf8 HN6 HW6 hHeld
      refine ⟨_, rfl, ?_⟩
      refine hK.out _ _ ⟨pw_cell_below HW8.out ((blk_cell HPW.out 8).trans rfl), pw_cell_below HW8.out ((blk_cell HPW.out 9).trans rfl)⟩ (fun hHeld => ?_)
      clear hK K
      try (refine norm_ (a' := ?_) ?_ ?_; rotate_left; focus (simp only [Act.put, List.setIfInBounds_toArray, List.set_cons_zero, List.set_cons_succ, i64_w, i32_w]; rfl))
      refine pure_ (i := 8) (N := some 47) (v := ?_) (a' := ?_) #[true, true, true, true, true, true, true, false, true, false, false, false] rfl rfl (by kernel_rfl) (fun _ _ _ h => h) (Or.inl ⟨by rfl, ?_⟩) ?_ ?_
      rotate_left
      · intro w'
        go_simp
        with_reducible rfl
      rotate_left
      · simp only [Act.put, List.setIfInBounds_toArray, List.set_cons_zero, List.set_cons_succ, i64_w, i32_w]
        rfl
      refine one_ (i := 7) (N := some 46) #[true, true, true, true, true, true, true, true, true, false, false, false] rfl rfl (by kernel_rfl) (by decide) (fun K hK => ?_)
      refine goes_ Try.func31 (by kernel_rfl) rfl #[.slice A0_8 l0_8.length c0_8] (by rfl) rfl rfl (by (try simp only [List.map_toArray, List.map_cons, List.map_nil]); rfl) ?_
      refine (clone_calls A0_8 c0_8 l0_8 w8 (Kd.C_below HC8.out (HBW.out.trans (HW8.out.mono HBW.out.size))) hc0_8 hn8).mono ?_
      rintro e w9 ⟨v9, rfl, hv9, hb9⟩
      obtain ⟨A7, c7, rfl⟩ := Kd.R_slice hv9
      have HV9 := Lib.hid (Kd.R_tight rfl hv9)
      have HS8 : Hid (W2.heap.size ≤ w8.heap.size) := HW8.out.size
      have HVB : Hid (∀ k, (Value.slice A7 l0_8.length c7).ownBlock = some k → W2.heap.size ≤ k ∧ k < w9.heap.size) := fun k hk => ⟨Nat.le_trans HW8.out.size (Kd.R_base hv9 k hk), Kd.R_lt hv9 k hk⟩
      have HN9 : Hid (ON w9 W2.heap.size (fun k => okn k ∧ some k ≠ (Value.slice A7 l0_8.length c7).ownBlock) (.slice A4 lf.length c4) lf) := Kd.N_mono (Kd.N_told (Kd.N_old HN8.out hb9) (Kd.R_base hv9)) (fun k hk => hk.1)
      have HW9 := Lib.hid (HW8.out.trans (hb9.mono HW8.out.size))
      clear hv9 hb9 HN8 HW8 hHeld
      have HP9 : Hid (w9.heap[bp]? = some (.cells #[.int .i64 a0_0, .int .u32 a0_1, .int .i64 a0_2, .int .i64 a0_3, .int .u32 a0_4, .int .u32 a0_5, .int .u32 a0_6, .int .u32 a0_7, .slice A0_8 l0_8.length c0_8, .slice A0_9 l0_9.length c0_9] 28 (0, 0))) := (HW9.out.block bp (blk_lt HPW.out)).trans HPW.out
      refine ⟨_, rfl, ?_⟩
      refine hK.out _ _ ⟨(blk_cell HP9.out 8).trans rfl, (blk_cell HP9.out 9).trans rfl⟩ (fun hHeld => ?_)
      clear hK K
      try (refine norm_ (a' := ?_) ?_ ?_; rotate_left; focus (simp only [Act.put, List.setIfInBounds_toArray, List.set_cons_zero, List.set_cons_succ, i64_w, i32_w]; rfl))
      have k9 := (blk_cell HP9.out 9).trans rfl
      have g9 := blk_frozen HP9.out 9
      have k8 : ∀ u, (w9.setCell ⟨bp, 9, none⟩ u).cell? ⟨bp, 8, none⟩ = some (.slice A0_8 l0_8.length c0_8) := fun u => (blk_cell (blk_set HP9.out 9 u) 8).trans rfl
      have g8 : ∀ u, (w9.setCell ⟨bp, 9, none⟩ u).frozen? ⟨bp, 8, none⟩ = false := fun u => blk_frozen (blk_set HP9.out 9 u) 8
      refine last_ (i := 9) (N := none) #[true, true, true, true, true, true, true, true, true, true, false, false] rfl rfl (by kernel_rfl) (by decide) (fun K hK => ?_)
      go_simp
      refine hK.out _ _ ?_
      clear hK K
      try (refine norm_ (a' := ?_) ?_ ?_; rotate_left; focus (simp only [Act.put, List.setIfInBounds_toArray, List.set_cons_zero, List.set_cons_succ, i64_w, i32_w]; rfl))
      refine pure_ (i := 10) (N := some 48) (v := ?_) (a' := ?_) #[true, true, true, true, true, true, true, true, true, true, true, false] rfl rfl (by kernel_rfl) (fun _ _ _ h => h) (Or.inl ⟨by rfl, ?_⟩) ?_ ?_
      rotate_left
      · intro w'
        go_simp
        with_reducible rfl
      rotate_left
      · simp only [Act.put, List.setIfInBounds_toArray, List.set_cons_zero, List.set_cons_succ, i64_w, i32_w]
        rfl
      refine last_ (i := 11) (N := none) #[true, true, true, true, true, true, true, true, true, true, true, true] rfl rfl (by kernel_rfl) (by decide) (fun K hK => ?_)
      go_simp
      refine hK.out _ _ ?_
      clear hK K k8 k9 g8 g9
      try (refine norm_ (a' := ?_) ?_ ?_; rotate_left; focus (simp only [Act.put, List.setIfInBounds_toArray, List.set_cons_zero, List.set_cons_succ, i64_w, i32_w]; rfl))
      refine done_ (by kernel_rfl) ?_
      have HBPW : Hid (bp < W2.heap.size) := blk_lt HPW.out
      have HBRW : Hid (br < W2.heap.size) := blk_lt HZW.out
      have HSW : Hid (w.heap.size ≤ W2.heap.size) := HBW.out.size
      obtain ⟨w10, hw10⟩ : ∃ W, (w9.setCell ⟨bp, 9, none⟩ (.slice A4 lf.length c4)).setCell ⟨bp, 8, none⟩ (.slice A7 l0_8.length c7) = W := ⟨_, rfl⟩
      have hz9 : w9.heap[br]? = some (.cells pkNil 28 (0, 0)) := (HW9.out.block br HBRW.out).trans HZW.out
      have HP10 : Hid (w10.heap[bp]? = some (.cells #[.int .i64 a0_0, .int .u32 a0_1, .int .i64 a0_2, .int .i64 a0_3, .int .u32 a0_4, .int .u32 a0_5, .int .u32 a0_6, .int .u32 a0_7, .slice A7 l0_8.length c7, .slice A4 lf.length c4] 28 (0, 0))) := by show _ = _; rw [← hw10]; exact blk_put (blk_put HP9.out 9 _ rfl) 8 _ rfl
      have HZ10 : Hid (w10.heap[br]? = some (.cells pkNil 28 (0, 0))) := by show _ = _; rw [← hw10]; exact blk_far (blk_far hz9 (p := ⟨bp, 9, none⟩) (by have := HBP.out; show br ≠ bp; omega) _) (p := ⟨bp, 8, none⟩) (by have := HBP.out; show br ≠ bp; omega) _
      have far : ∀ k, k ≠ bp → w10.heap[k]? = w9.heap[k]? := fun k hk => by rw [← hw10]; exact (Below.heap_setCell _ _ _ k hk).trans (Below.heap_setCell _ _ _ k hk)
      have HNB : Hid (∀ k, okn k → k ≠ bp ∧ k ≠ br) := by
        intro k hk
        rw [HOKE.out] at hk
        have h1 := HBP.out
        have h2 := HBPW.out
        have h3 := HBRW.out
        rcases hk with ⟨_, hk⟩ | hk <;> exact ⟨by omega, by omega⟩
      have HN10 : Hid (ON w10 W2.heap.size (fun k => okn k ∧ some k ≠ (Value.slice A7 l0_8.length c7).ownBlock) (.slice A4 lf.length c4) lf) := Kd.N_step HN9.out (fun k hk _ => far k (HNB.out k hk.1).1)
      have HV10 : Hid (Kd.R (Kd.int .u8) 5 w10 w8.heap.size (fun k => some k = (Value.slice A7 l0_8.length c7).ownBlock) (.slice A7 l0_8.length c7) l0_8) := Kd.R_step HV9.out (fun k hk _ => far k (by have h1 := (HVB.out k hk.symm).1; have h2 := HBPW.out; omega))
      have HT9 := Lib.hid (Kd.S_below HTW.out HW9.out)
      have HW10 : Hid (Below w.heap.size w w10) := by show Below _ _ _; rw [← hw10]; exact below_set (below_set (HBW.out.trans (HW9.out.mono HBW.out.size)) HBP.out.1) HBP.out.1
      have HS9 : Hid (W2.heap.size ≤ w9.heap.size) := HW9.out.size
      have HS10 : Hid (w10.heap.size = w9.heap.size) := by show _ = _; rw [← hw10]; simp
      have HFAR := Lib.hid far
      rw [hw10]
      clear hw10 hz9 far HN9 HV9 HP9 HZW HPW HBW HTW hHeld
      have hlb : lf.length ≤ 199 := Nat.le_trans HLFL.out HFP.out.2.1
      have y9 := (blk_cell HP10.out 9).trans rfl
      go_wp2_with fail
      go_loopw [52] (fun i wr => ∃ k : Nat, k ≤ lf.length ∧ i = .int .i64 k ∧ Hid (ON wr W2.heap.size (fun k => okn k ∧ some k ≠ (Value.slice A7 l0_8.length c7).ownBlock) (.slice A4 lf.length c4) lf) ∧ Hid (OFr w10 wr (fun k => (Value.slice A4 lf.length c4).ownBlock = some k))) (fun i _ => lf.length - (intOf i).toNat)
      case atStart => exact ⟨0, Nat.zero_le _, rfl, HN10, OFr.refl _ _⟩
      case round =>
        clear HN10 y9
        obtain ⟨k, hk, rfl, HN, HF⟩ := hrel
        have HPR : Hid (wr.heap[bp]? = some (.cells #[.int .i64 a0_0, .int .u32 a0_1, .int .i64 a0_2, .int .i64 a0_3, .int .u32 a0_4, .int .u32 a0_5, .int .u32 a0_6, .int .u32 a0_7, .slice A7 l0_8.length c7, .slice A4 lf.length c4] 28 (0, 0))) := (HF.out.block bp (blk_lt HP10.out) (fun e => (Kd.N_away (g := bp) HN.out (fun k hk => (HNB.out k hk.1).1)) e.symm)).trans HP10.out
        by_cases hlt : k < lf.length
        · obtain ⟨q, cap, he, hq1, hq2, _⟩ := Kd.N_form HN.out (by omega)
          obtain ⟨adq, hadq⟩ : ∃ a, a = (⟨q, 0, none⟩ : Addr) := ⟨_, rfl⟩
          injection he with e1 _ e3
          subst e3
          have HN' := Lib.hid HN.out
          rw [e1] at HN'
          obtain ⟨cs, hcl, hK, hcc, hfz⟩ := Kd.N_elem HN'.out ⟨0, []⟩ (k : Int) (by omega) (by omega)
          rw [Int.toNat_natCast] at hK hcc hfz
          obtain ⟨x, hx⟩ : ∃ x, x = lf[k] := ⟨_, rfl⟩
          rw [show lf.getD k ⟨0, []⟩ = x from by rw [List.getD_eq_getElem?_getD, List.getElem?_eq_getElem hlt, hx]; rfl] at hK
          have HXL : Hid (x.f1.length < 140737488355328) := by show _ < _; rw [hx]; exact HLFD.out _ (List.getElem_mem hlt)
          have HX := Lib.hid hx
          obtain ⟨A1, c1, rfl, hl1, hF1⟩ := k48_openF hK
          have a2 : adq.add (k * 2) = ⟨q, k * 2, none⟩ := by rw [hadq, add_at, Nat.zero_add]
          have y0 : wr.cell? (adq.add (k * 2)) = some (.int .i64 x.f0) := by rw [a2]; exact hcc 0 _ rfl
          have y1 : wr.cell? ⟨(adq.add (k * 2)).block, (adq.add (k * 2)).off + 1, none⟩ = some (.slice A1 x.f1.length c1) := by rw [a2]; exact hcc 1 _ rfl
          have HF1 := Lib.hid hF1
          have HL1 := Lib.hid hl1
          have HA2 := Lib.hid a2
          have HQ : Hid (W2.heap.size ≤ q ∧ q < wr.heap.size) := ⟨hq1, hq2⟩
          rw [← hadq] at e1
          subst e1
          have p1 : (0 ≤ (k : Int)) = True := eq_true (by omega)
          have p2 : ((k : Int) < (lf.length : Int)) = True := eq_true (by omega)
          have HADQ := Lib.hid hadq
          clear hx hK hcc hfz hF1 hl1 a2 hadq HN hq1 hq2 hcl
          have HPA : Hid ((wr.alloc (.cells #[.int .i64 x.f0, .slice A1 x.f1.length c1] 48)).heap[bp]? = some (.cells #[.int .i64 a0_0, .int .u32 a0_1, .int .i64 a0_2, .int .i64 a0_3, .int .u32 a0_4, .int .u32 a0_5, .int .u32 a0_6, .int .u32 a0_7, .slice A7 l0_8.length c7, .slice (some adq) lf.length c4] 28 (0, 0))) := ((below_alloc (Below.refl wr.heap.size wr) _).block bp (blk_lt HPR.out)).trans HPR.out
          have HXA := Lib.hid (blk_new wr (.cells #[.int .i64 x.f0, .slice A1 x.f1.length c1] 48))
          have HNA := Lib.hid (Kd.N_alloc HN'.out (.cells #[.int .i64 x.f0, .slice A1 x.f1.length c1] 48))
          have HFA := Lib.hid (HF.out.below (below_alloc (Below.refl wr.heap.size wr) (.cells #[.int .i64 x.f0, .slice A1 x.f1.length c1] 48)))
          have HCA := Lib.hid (Kd.C_alloc (Kd.F_now HF1.out) (.cells #[.int .i64 x.f0, .slice A1 x.f1.length c1] 48))
          have HSA : Hid (wr.heap.size ≤ (wr.alloc (.cells #[.int .i64 x.f0, .slice A1 x.f1.length c1] 48)).heap.size) := (below_alloc (Below.refl wr.heap.size wr) _).size
          obtain ⟨bx, hbx⟩ : ∃ b, wr.heap.size = b := ⟨_, rfl⟩
          obtain ⟨wa, hwa⟩ : ∃ W, wr.alloc (.cells #[.int .i64 x.f0, .slice A1 x.f1.length c1] 48) = W := ⟨_, rfl⟩
          rw [hwa] at HPA HNA HFA HCA HXA HSA
          rw [hbx] at HXA HSA
          have HSB : Hid (w10.heap.size ≤ bx) := by show _ ≤ _; rw [← hbx]; exact HF.out.size
          have HQX : Hid (q < bx) := by show _ < _; rw [← hbx]; exact HQ.out.2
          go_upto_region 14 with fail
          try rw [hwa]
          try rw [hbx]
          clear hwa hbx y0 y1 HF HN' HPR HF1
          have e9 := (blk_cell HPA.out 9).trans rfl
          have x1 := (blk_cell HXA.out 1).trans rfl
          refine start_ (n := 9) (S := fun w' => w'.cell? ⟨bp, 9, none⟩ = some (.slice (some adq) lf.length c4) ∧ w'.cell? ⟨bx, 1, none⟩ = some (.slice A1 x.f1.length c1)) (ds := [8]) #[false, false, false, false, false, false, false, false, false] (by kernel_rfl) rfl rfl ⟨e9, x1⟩ (fun hHeld => ?_)
          obtain ⟨W3, hW3⟩ : ∃ W3, wa.drew = W3 := ⟨_, rfl⟩
          have hbw : Below wa.heap.size wa W3 := by rw [← hW3]; exact below_drew (Below.refl _ _)
          rw [hW3] at hHeld ⊢
          clear hW3 e9 x1
          have HP3 : Hid (W3.heap[bp]? = some (.cells #[.int .i64 a0_0, .int .u32 a0_1, .int .i64 a0_2, .int .i64 a0_3, .int .u32 a0_4, .int .u32 a0_5, .int .u32 a0_6, .int .u32 a0_7, .slice A7 l0_8.length c7, .slice (some adq) lf.length c4] 28 (0, 0))) := (hbw.block bp (blk_lt HPA.out)).trans HPA.out
          have HX3 : Hid (W3.heap[bx]? = some (.cells #[.int .i64 x.f0, .slice A1 x.f1.length c1] 48 (0, 0))) := (hbw.block bx (blk_lt HXA.out)).trans HXA.out
          have HN3 := Lib.hid (Kd.N_below HNA.out hbw)
          have HF3 := Lib.hid (HFA.out.below hbw)
          have HC3 := Lib.hid (Kd.C_below HCA.out hbw)
          have HS3 : Hid (bx ≤ W3.heap.size) := Nat.le_trans HSA.out hbw.size
          clear hbw HPA HXA HNA HFA HCA HSA
          refine pure_ (i := 0) (N := some 57) (v := ?_) (a' := ?_) #[true, false, false, false, false, false, false, false, false] rfl rfl (by kernel_rfl) (fun _ _ _ h => h) (Or.inl ⟨by rfl, ?_⟩) ?_ ?_
          rotate_left
          · intro w'
            go_simp
            with_reducible rfl
          rotate_left
          · simp only [Act.put, List.setIfInBounds_toArray, List.set_cons_zero, List.set_cons_succ, i64_w, i32_w]
            rfl
          refine pure_ (i := 2) (N := some 59) (v := ?_) (a' := ?_) #[true, false, true, false, false, false, false, false, false] rfl rfl (by kernel_rfl) (fun _ _ _ h => h) (Or.inl ⟨by rfl, ?_⟩) ?_ ?_
          rotate_left
          · intro w'
            go_simp
            with_reducible rfl
          rotate_left
          · simp only [Act.put, List.setIfInBounds_toArray, List.set_cons_zero, List.set_cons_succ, i64_w, i32_w]
            rfl
          refine pure_ (i := 3) (N := some 60) (v := ?_) (a' := ?_) #[true, false, true, true, false, false, false, false, false] rfl rfl (by kernel_rfl) (fun _ _ _ h => h) (Or.inl ⟨by rfl, ?_⟩) ?_ ?_
          rotate_left
          · intro w'
            go_simp
            with_reducible rfl
          rotate_left
          · simp only [Act.put, List.setIfInBounds_toArray, List.set_cons_zero, List.set_cons_succ, i64_w, i32_w]
            rfl
          refine take_ (i := 1) (N := some 58) (v := .slice (some adq) lf.length c4) (a' := ?_) #[true, true, true, true, false, false, false, false, false] rfl rfl (by kernel_rfl) (fun _ _ _ h => h) (Or.inl ⟨by rfl, ?_⟩) hHeld ?_ ?_
          · rintro w' ⟨s0, s1⟩
            go_simp
            try (with_reducible rfl)
          rotate_left
          · simp only [Act.put, List.setIfInBounds_toArray, List.set_cons_zero, List.set_cons_succ, i64_w, i32_w]
            rfl
          refine take_ (i := 4) (N := some 61) (v := .slice A1 x.f1.length c1) (a' := ?_) #[true, true, true, true, true, false, false, false, false] rfl rfl (by kernel_rfl) (fun _ _ _ h => h) (Or.inl ⟨by rfl, ?_⟩) hHeld ?_ ?_
          · rintro w' ⟨s0, s1⟩
            go_simp
            try (with_reducible rfl)
          rotate_left
          · simp only [Act.put, List.setIfInBounds_toArray, List.set_cons_zero, List.set_cons_succ, i64_w, i32_w]
            rfl
          refine one_ (i := 5) (N := some 62) #[true, true, true, true, true, true, false, false, false] rfl rfl (by kernel_rfl) (by decide) (fun K hK => ?_)
          refine goes_ Try.func31 (by kernel_rfl) rfl #[.slice A1 x.f1.length c1] (by rfl) rfl rfl (by (try simp only [List.map_toArray, List.map_cons, List.map_nil]); rfl) ?_
          refine (clone_calls A1 c1 x.f1 W3 HC3.out HL1.out HXL.out).mono ?_
          rintro e w4' ⟨v4', rfl, hv4, hb4⟩
          obtain ⟨A6, c6, rfl⟩ := Kd.R_slice hv4
          have HN4 := Lib.hid (Kd.N_below HN3.out hb4)
          have HF4 := Lib.hid (HF3.out.below hb4)
          have HR4 := Lib.hid (Kd.R_tight rfl hv4)
          have HRB : Hid (∀ k, (Value.slice A6 x.f1.length c6).ownBlock = some k → bx ≤ k) := fun k hk => Nat.le_trans HS3.out (Kd.R_base hv4 k hk)
          have HB4' := Lib.hid hb4
          clear hv4 hb4 HN3 HF3 hHeld
          refine ⟨_, rfl, ?_⟩
          refine hK.out _ _ ⟨pw_cell_below HB4'.out ((blk_cell HP3.out 9).trans rfl), pw_cell_below HB4'.out ((blk_cell HX3.out 1).trans rfl)⟩ (fun hHeld => ?_)
          clear hK K
          try (refine norm_ (a' := ?_) ?_ ?_; rotate_left; focus (simp only [Act.put, List.setIfInBounds_toArray, List.set_cons_zero, List.set_cons_succ, i64_w, i32_w]; rfl))
          obtain ⟨cs4, hcl4, hK4, hcc4, hfz4⟩ := Kd.N_elem HN4.out ⟨0, []⟩ (k : Int) (by omega) (by omega)
          rw [Int.toNat_natCast] at hK4 hcc4 hfz4
          obtain ⟨A5, c5, rfl, _, _⟩ := k48_openF hK4
          have y1 : w4'.cell? ⟨(adq.add (k * 2)).block, (adq.add (k * 2)).off + 1, none⟩ = some (.slice A5 (lf.getD k ⟨0, []⟩).f1.length c5) := by rw [HA2.out]; exact hcc4 1 _ rfl
          have z1 : w4'.frozen? ⟨(adq.add (k * 2)).block, (adq.add (k * 2)).off + 1, none⟩ = false := by rw [HA2.out]; exact hfz4 1
          have HXG : Hid (lf.getD k ⟨0, []⟩ = x) := by show _ = _; rw [List.getD_eq_getElem?_getD, List.getElem?_eq_getElem hlt, HX.out]; rfl
          have HSEG := Lib.hid (Kd.N_seg HN4.out (k : Int) (by omega) (by omega) (seg := [.slice A6 x.f1.length c6]) (j := 1) hcl4 (by rw [Int.toNat_natCast]; exact hcc4) (by show 1 + 1 ≤ 2; decide) (x' := x) (okp := fun j => some j = (Value.slice A6 x.f1.length c6).ownBlock)
            (by rw [HXG.out]; exact k48_mkF w4' _ x (Kd.R_reads' HR4.out).2.1 (Kd.R_F HR4.out)) (fun j hj => by
              have h1 := HRB.out j hj.symm
              have h2 := HSB.out
              have h3 := HS10.out
              have h4 := HQ.out.1
              have h5 := HQX.out
              refine ⟨⟨HOK.out j (by omega), fun e => ?_⟩, by omega⟩
              have h6 := (HVB.out j e.symm).2
              omega))
          clear hK4 hcc4 hfz4 hcl4
          refine pure_ (i := 6) (N := some 63) (v := ?_) (a' := ?_) #[true, true, true, true, true, true, true, false, false] rfl rfl (by kernel_rfl) (fun _ _ _ h => h) (Or.inl ⟨by rfl, ?_⟩) ?_ ?_
          rotate_left
          · intro w'
            go_simp
            with_reducible rfl
          rotate_left
          · simp only [Act.put, List.setIfInBounds_toArray, List.set_cons_zero, List.set_cons_succ, i64_w, i32_w]
            rfl
          refine pure_ (i := 7) (N := some 64) (v := ?_) (a' := ?_) #[true, true, true, true, true, true, true, true, false] rfl rfl (by kernel_rfl) (fun _ _ _ h => h) (Or.inl ⟨by rfl, ?_⟩) ?_ ?_
          rotate_left
          · intro w'
            go_simp
            with_reducible rfl
          rotate_left
          · simp only [Act.put, List.setIfInBounds_toArray, List.set_cons_zero, List.set_cons_succ, i64_w, i32_w]
            rfl
          refine last_ (i := 8) (N := none) #[true, true, true, true, true, true, true, true, true] rfl rfl (by kernel_rfl) (by decide) (fun K hK => ?_)
          go_simp
          refine hK.out _ _ ?_
          clear hK K y1 z1 hHeld
          try (refine norm_ (a' := ?_) ?_ ?_; rotate_left; focus (simp only [Act.put, List.setIfInBounds_toArray, List.set_cons_zero, List.set_cons_succ, i64_w, i32_w]; rfl))
          refine done_ (by kernel_rfl) ?_
          have hw5 : w4'.setCell ⟨(adq.add (k * 2)).block, (adq.add (k * 2)).off + 1, none⟩ (.slice A6 x.f1.length c6) = w4'.setCells q ((k : Int).toNat * 2 + 1) [.slice A6 x.f1.length c6] := by rw [HA2.out, Int.toNat_natCast]; rfl
          have HW5 := Lib.hid hw5
          clear hw5
          go_wp2_with fail
          go_roundw
          case rel =>
            have h1 : Hid (ON (w4'.setCell ⟨(adq.add (k * 2)).block, (adq.add (k * 2)).off + 1, none⟩ (.slice A6 x.f1.length c6)) W2.heap.size (fun k => okn k ∧ some k ≠ (Value.slice A7 l0_8.length c7).ownBlock) (.slice (some adq) lf.length c4) lf) := by
              show ON _ _ _ _ _
              rw [HW5.out, HADQ.out]
              have := HSEG.out.1
              rw [Int.toNat_natCast, show lf.set k x = lf from by rw [HX.out]; exact List.set_getElem_self ..] at this
              exact this
            have h2 : Hid (OFr w10 (w4'.setCell ⟨(adq.add (k * 2)).block, (adq.add (k * 2)).off + 1, none⟩ (.slice A6 x.f1.length c6)) (fun k => (Value.slice (some adq) lf.length c4).ownBlock = some k)) := by
              show OFr _ _ _
              rw [HW5.out]
              exact HF4.out.cells (by rw [HADQ.out]; simp [Value.ownBlock]) _ _
            first
              | exact ⟨k + 1, by omega, by go_num, h1, h2⟩
              | ((repeat apply Exists.intro); exact ⟨⟨k + 1, by omega, by go_num, h1, h2⟩, rfl⟩)
              | ((repeat apply Exists.intro); exact ⟨⟨k + 1, by omega, by go_num, h1, h2⟩, rfl, rfl, rfl⟩)
          case measure => simp [intOf]; omega
        · have p2 : ((k : Int) < (lf.length : Int)) = False := eq_false (by omega)
          have HZR : Hid (wr.heap[br]? = some (.cells pkNil 28 (0, 0))) := (HF.out.block br (blk_lt HZ10.out) (fun e => (Kd.N_away (g := br) HN.out (fun k hk => (HNB.out k hk.1).2)) e.symm)).trans HZ10.out
          have y7 := (blk_cell HPR.out 7).trans rfl
          have g7 := blk_frozen HPR.out 7
          go_upto_region 17 with fail
          obtain ⟨we, hwe⟩ : ∃ W, wr.setCell ⟨bp, 7, none⟩ (.int .u32 0) = W := ⟨_, rfl⟩
          have HPE : Hid (we.heap[bp]? = some (.cells #[.int .i64 a0_0, .int .u32 a0_1, .int .i64 a0_2, .int .i64 a0_3, .int .u32 a0_4, .int .u32 a0_5, .int .u32 a0_6, .int .u32 0, .slice A7 l0_8.length c7, .slice A4 lf.length c4] 28 (0, 0))) := by show _ = _; rw [← hwe]; exact blk_put HPR.out 7 _ rfl
          have HZE : Hid (we.heap[br]? = some (.cells pkNil 28 (0, 0))) := by show _ = _; rw [← hwe]; exact blk_far HZR.out (p := ⟨bp, 7, none⟩) (by have := HBP.out; show br ≠ bp; omega) _
          have HKE : Hid (∀ k, k ≠ bp → we.heap[k]? = wr.heap[k]?) := fun k hk => by rw [← hwe]; exact Below.heap_setCell _ _ _ k hk
          have HSE : Hid (we.heap.size = wr.heap.size ∧ we.os = wr.os ∧ we.tape = wr.tape ∧ we.output = wr.output) := by rw [← hwe]; exact ⟨by simp, rfl, rfl, rfl⟩
          rw [hwe]
          clear hwe y7 g7
          have y0 := (blk_cell HPE.out 0).trans rfl
          have y1 := (blk_cell HPE.out 1).trans rfl
          have y2 := (blk_cell HPE.out 2).trans rfl
          have y3 := (blk_cell HPE.out 3).trans rfl
          have y4 := (blk_cell HPE.out 4).trans rfl
          have y5 := (blk_cell HPE.out 5).trans rfl
          have y6 := (blk_cell HPE.out 6).trans rfl
          have y7 := (blk_cell HPE.out 7).trans rfl
          have y8 := (blk_cell HPE.out 8).trans rfl
          have y9 := (blk_cell HPE.out 9).trans rfl
          have u0_ := (blk_cell HZE.out 0).trans rfl
          have f0_ := blk_frozen HZE.out 0
          have u1_ := (blk_cell HZE.out 1).trans rfl
          have f1_ := blk_frozen HZE.out 1
          have u2_ := (blk_cell HZE.out 2).trans rfl
          have f2_ := blk_frozen HZE.out 2
          have u3_ := (blk_cell HZE.out 3).trans rfl
          have f3_ := blk_frozen HZE.out 3
          have u4_ := (blk_cell HZE.out 4).trans rfl
          have f4_ := blk_frozen HZE.out 4
          have u5_ := (blk_cell HZE.out 5).trans rfl
          have f5_ := blk_frozen HZE.out 5
          have u6_ := (blk_cell HZE.out 6).trans rfl
          have f6_ := blk_frozen HZE.out 6
          have u7_ := (blk_cell HZE.out 7).trans rfl
          have f7_ := blk_frozen HZE.out 7
          have u8_ := (blk_cell HZE.out 8).trans rfl
          have f8_ := blk_frozen HZE.out 8
          have u9_ := (blk_cell HZE.out 9).trans rfl
          have f9_ := blk_frozen HZE.out 9
          go_wp2_with fail
          have hbx := HBP.out
          have hsw := HSW.out
          have hbe : Below w.heap.size w we := by
            have h1 : Below w.heap.size w wr := HW10.out.trans (HF.out.to_below HW10.out.size (fun k hk => Nat.le_trans hsw (Kd.N_base HN.out k hk)))
            exact ⟨HSE.out.2.1.trans h1.os, HSE.out.2.2.1.trans h1.tape, HSE.out.2.2.2.trans h1.output, by rw [HSE.out.1]; exact h1.size, fun k hk => (HKE.out k (by omega)).trans (h1.block k hk)⟩
          have hr := HRES4.out
          simp only [Prod.mk.injEq] at hr
          obtain ⟨rfl, rfl, rfl, rfl, rfl, rfl, rfl, rfl, rfl, rfl, rfl, rfl⟩ := hr
          refine strip_ret rfl rfl rfl (pk_set HZE.out _ _ _ _ _ _ _ _ _ _) ?_
          have hend : ∀ k, k ≠ br → _ = we.heap[k]? := fun k hk => pk_far (W := we) hk (.int .i64 a0_0) (.int .u32 a0_1) (.int .i64 a0_2) (.int .i64 a0_3) (.int .u32 a0_4) (.int .u32 a0_5) (.int .u32 a0_6) (.int .u32 0) (.slice A7 l0_8.length c7) (.slice A4 lf.length c4)
          refine ⟨_, _, _, rfl, ?_, ?_, ?_, pk_below hbe (by omega) _ _ _ _ _ _ _ _ _ _⟩
          · refine Kd.R_mono (Kd.R_lower (Kd.R_step HV10.out (fun k hk hlt => ?_)) (Nat.le_trans hsw (Nat.le_trans ?_ (Nat.le_refl _)))) (fun _ _ => trivial)
            · have h1 := HVB.out k hk.symm
              have h2 := HBPW.out
              have h3 := HBRW.out
              exact ((hend k (by omega)).trans (HKE.out k (by omega))).trans (HF.out.block k hlt (fun e => (HN.out.1 k e).2 hk))
            · exact HS8.out
          · refine Kd.N_lower (Kd.N_mono (Kd.N_step HN.out (fun k hk _ => (hend k (HNB.out k hk.1).2).trans (HKE.out k (HNB.out k hk.1).1))) (fun k hk => ?_)) hsw
            have h1 := hk.1
            rw [HOKE.out] at h1
            refine ⟨?_, hk.2, fun e => ?_⟩
            · rcases h1 with h1 | h1
              · exact .inl h1.1
              · exact .inr (by omega)
            · have h2 := Kd.S_base HT9.out k e.symm
              have h3 := Kd.S_lt HTB.out k e.symm
              have h4 := HS5.out
              rcases h1 with h1 | h1 <;> omega
          · refine Kd.N_lower (Kd.N_mono (Kd.S_N (Kd.S_step HT9.out (fun k hk hlt => ?_))) (fun k hk => ?_)) (Nat.le_refl _)
            · have h1 := hk.2.2.1
              have h4 := HS5.out
              have h7 := HS9.out
              have h8 := HS10.out
              have hne : k ≠ bp ∧ k ≠ br := HTN.out k hk
              exact ((((hend k hne.2).trans (HKE.out k hne.1)).trans (HF.out.block k (by omega) (fun e => by have h2 := Kd.N_base HN.out k e; omega))).trans (HFAR.out k hne.1))
            · have h1 := hk.2.2.1
              have h2 := hk.2.1
              have h3 := HS4.out
              have h4 := HS5.out
              refine ⟨.inr (by omega), fun e => ?_, fun e => ?_⟩
              · have h5 := (HVB.out k e.symm).1; omega
              · have h5 := Kd.N_base HN.out k e.symm; omega
end Go.Proofs.Ytnkajghemggaaaa
end

section
-- written by a program of this session (wip/tools/gen.py) over the kit's print
namespace Go.Proofs.Ytnkajghemggaaaa.Pr
open Go.RowKit Go.Proofs.YtnkajghemggaaaaW.PrintWords Go.Proofs.YtnkajghemggaaaaW.PrintLast Go.Proofs.YtnkajghemggaaaaW.PrintMore
attribute [local go_sem] max2_int min2_int max_two min_two max_three min_three max_four min_four   -- for this text's walks alone
set_option linter.unusedVariables false
set_option linter.unusedSimpArgs false

/-! ### lessorref03_Few: function 9 -/
def lessorref03_Few.f (k : Nat) (a0_0 : Int) (a0_1 : Int) (a0_2 : Int) (a0_3 : Int) (a0_4 : Int) (a0_5 : Int) (a0_6 : Int) (a0_7 : Int) (l0_8 : List Int) (l0_9 : List (S48)) : Option (Bool) := (lessorref02_Few.f k l0_9).bind fun t200 => (if t200 = true then (some (decide ((l0_8.length : Int) < 1000))) else (some false))
theorem lessorref03_Few.mono : ∀ a0 a1 a2 a3 a4 a5 a6 a7 a8 a9 k, LeO (lessorref03_Few.f k a0 a1 a2 a3 a4 a5 a6 a7 a8 a9) (lessorref03_Few.f (k + 1) a0 a1 a2 a3 a4 a5 a6 a7 a8 a9) := by
 intro a0 a1 a2 a3 a4 a5 a6 a7 a8 a9 k
 unfold lessorref03_Few.f
 repeat' first
   | (with_reducible exact lessorref02_Few.mono _ _)
   | (with_reducible exact LeO.refl _)
   | (with_reducible exact LeO.none _)
   | (with_reducible refine LeO.ite ?_ ?_)
   | (with_reducible refine LeO.bind ?_ (fun _ => ?_))
   | exact lessorref02_Few.mono _ _
   | exact LeO.none _
   | refine LeO.ite ?_ ?_
   | refine LeO.bind ?_ (fun _ => ?_)
set_option maxHeartbeats 8000000 in
set_option maxRecDepth 100000 in
theorem lessorref03_Few.calls (k : Nat) (a0_0 : Int) (a0_1 : Int) (a0_2 : Int) (a0_3 : Int) (a0_4 : Int) (a0_5 : Int) (a0_6 : Int) (a0_7 : Int) (A0_8 : Option Addr) (c0_8 : Nat) (l0_8 : List Int) (A0_9 : Option Addr) (c0_9 : Nat) (l0_9 : List (S48)) (r : Bool) (w : World) (hr0_8 : Kd.C (Kd.int .u8) w A0_8 l0_8.length l0_8) (hc0_8 : l0_8.length ≤ c0_8) (hr0_9 : Kd.C k48 w A0_9 l0_9.length l0_9) (hc0_9 : l0_9.length ≤ c0_9) (h : lessorref03_Few.f k a0_0 a0_1 a0_2 a0_3 a0_4 a0_5 a0_6 a0_7 l0_8 l0_9 = some r) :
  Calls Try.prog 9 #[.agg #[.int .i64 a0_0, .int .u32 a0_1, .int .i64 a0_2, .int .i64 a0_3, .int .u32 a0_4, .int .u32 a0_5, .int .u32 a0_6, .int .u32 a0_7, .slice A0_8 l0_8.length c0_8, .slice A0_9 l0_9.length c0_9]] w fun e w' => e = .returned (.bool r) ∧ Below w.heap.size w w' := by
 have hu28 := Try.underlying28
 have HR0_8 := Aside0.mk hr0_8
 have HC0_8 := Aside0.mk hc0_8
 clear hr0_8 hc0_8
 have HR0_9 := Aside0.mk hr0_9
 have HC0_9 := Aside0.mk hc0_9
 clear hr0_9 hc0_9
 have HB := Aside0.mk (Below.refl w.heap.size w)
 have H : ((lessorref02_Few.f k l0_9).bind fun t200 => (if t200 = true then (some (decide ((l0_8.length : Int) < 1000))) else (some false))) = some r := h
 clear h
 replace H := Option.bind_eq_some_iff.mp H
 obtain ⟨t200, A20, H⟩ := H
 replace H : (if t200 = true then (some (decide ((l0_8.length : Int) < 1000))) else (some false)) = some r := H
 have A2 := Aside0.mk A20
 clear A20
 by_cases c3 : t200 = true
 ·subst c3
  have H1 : (some (decide ((l0_8.length : Int) < 1000))) = some r := by rw [if_pos rfl] at H; exact H
  clear H
  have H := H1
  clear H1
  obtain rfl := Option.some.inj H
  go_enter Try.func9, Try.ntmps9
  go_wp2_with (first | ((with_reducible refine gate_dst (N := 1) rfl ?_); (try (refine gate_guard (by rfl) ?_; dsimp only)); refine box_event ?hg_1 (N := 1) ?hd_1 (cs := #[.int .i64 a0_0, .int .u32 a0_1, .int .i64 a0_2, .int .i64 a0_3, .int .u32 a0_4, .int .u32 a0_5, .int .u32 a0_6, .int .u32 a0_7, .slice A0_8 l0_8.length c0_8, .slice A0_9 l0_9.length c0_9]) (t := 28) ?hr_1 ?_; (case hd_1 => rfl); (case hg_1 => rfl); (case hr_1 => first | (go_simp; done) | (go_simp; rfl)); intro gb199 hg w4 hbox hb; have n0_ := Aside0.mk (below_step (by repeat (first | (with_reducible first | exact HB.out | apply below_alloc | apply pw_below_drewN | apply below_drew1) | exact HB.out)) hb); have n1_ := Aside0.mk (hbox); have n2_ := Aside0.mk ((by rw [hg]; exact (below_size (by repeat (first | (with_reducible first | exact HB.out | apply below_alloc | apply pw_below_drewN | apply below_drew1) | exact HB.out))) : w.heap.size ≤ gb199)); have n3_ := Aside0.mk ((by rw [hg]; exact (below_size (by repeat (first | (with_reducible first | exact HB.out | apply below_alloc | apply pw_below_drewN | apply below_drew1) | exact HB.out))) : w.heap.size ≤ gb199)); clear HB; have HB := n0_; have BK199 := n1_; have GW199 := n2_; have GE199 := n3_; clear n0_ n1_ n2_ n3_; clear hb hbox hg; have hcz5_0 : w4.cell? ⟨gb199, 0, none⟩ = some (.int .i64 a0_0) := (blk_cell BK199.out 0).trans rfl; have hcz5_1 : w4.cell? ⟨gb199, 1, none⟩ = some (.int .u32 a0_1) := (blk_cell BK199.out 1).trans rfl; have hcz5_2 : w4.cell? ⟨gb199, 2, none⟩ = some (.int .i64 a0_2) := (blk_cell BK199.out 2).trans rfl; have hcz5_3 : w4.cell? ⟨gb199, 3, none⟩ = some (.int .i64 a0_3) := (blk_cell BK199.out 3).trans rfl; have hcz5_4 : w4.cell? ⟨gb199, 4, none⟩ = some (.int .u32 a0_4) := (blk_cell BK199.out 4).trans rfl; have hcz5_5 : w4.cell? ⟨gb199, 5, none⟩ = some (.int .u32 a0_5) := (blk_cell BK199.out 5).trans rfl; have hcz5_6 : w4.cell? ⟨gb199, 6, none⟩ = some (.int .u32 a0_6) := (blk_cell BK199.out 6).trans rfl; have hcz5_7 : w4.cell? ⟨gb199, 7, none⟩ = some (.int .u32 a0_7) := (blk_cell BK199.out 7).trans rfl; have hcz5_8 : w4.cell? ⟨gb199, 8, none⟩ = some (.slice A0_8 l0_8.length c0_8) := (blk_cell BK199.out 8).trans rfl; have hcz5_9 : w4.cell? ⟨gb199, 9, none⟩ = some (.slice A0_9 l0_9.length c0_9) := (blk_cell BK199.out 9).trans rfl; have hfz5_0 := blk_frozen BK199.out 0; have hfz5_1 := blk_frozen BK199.out 1; have hfz5_2 := blk_frozen BK199.out 2; have hfz5_3 := blk_frozen BK199.out 3; have hfz5_4 := blk_frozen BK199.out 4; have hfz5_5 := blk_frozen BK199.out 5; have hfz5_6 := blk_frozen BK199.out 6; have hfz5_7 := blk_frozen BK199.out 7; have hfz5_8 := blk_frozen BK199.out 8; have hfz5_9 := blk_frozen BK199.out 9) | ((with_reducible refine gate_callee (f := 12) rfl ?_); refine goesL_ (some 6) rfl rfl Try.func12 (by kernel_rfl) rfl #[.slice A0_9 l0_9.length c0_9] rfl (by (try simp only [List.map_toArray, List.map_cons, List.map_nil]); first | done | rfl | (simp only [List.length_drop, List.length_take]; rfl)) ?_; (with_reducible refine (lessorref02_Few.calls k _ _ l0_9 true _ ?side1_2 ?side2_2 A2.out).mono ?_); (case side1_2 => repeat (first | exact (Kd.C_below HR0_9.out HB.out) | exact (Kd.C_below (Aside0.out (by assumption)) HB.out) | (with_reducible refine Kd.C_alloc ?_ _) | (with_reducible refine Kd.C_drewN ?_ _) | (with_reducible refine Kd.C_drew ?_))); (case side2_2 => exact HC0_9.out); rintro e w' ⟨rfl, ⟨nd, rfl⟩⟩; refine ⟨_, rfl, ?_⟩))
  go_ret
  exact ⟨by first | rfl | (simp [errW_none, errW_some] <;> rfl) | (simp [*, errW_none, errW_some] <;> rfl), by repeat (first | (with_reducible first | exact HB.out | apply below_alloc | apply pw_below_drewN | apply below_drew1 | refine below_set ?_ GE199.out) | exact HB.out)⟩
 ·replace c3 := Bool.eq_false_iff.mpr c3
  subst c3
  have H1 : (some false) = some r := by rw [if_neg (show ¬ (false = true) by decide)] at H; exact H
  clear H
  have H := H1
  clear H1
  obtain rfl := Option.some.inj H
  go_enter Try.func9, Try.ntmps9
  go_wp2_with (first | ((with_reducible refine gate_dst (N := 1) rfl ?_); (try (refine gate_guard (by rfl) ?_; dsimp only)); refine box_event ?hg_3 (N := 1) ?hd_3 (cs := #[.int .i64 a0_0, .int .u32 a0_1, .int .i64 a0_2, .int .i64 a0_3, .int .u32 a0_4, .int .u32 a0_5, .int .u32 a0_6, .int .u32 a0_7, .slice A0_8 l0_8.length c0_8, .slice A0_9 l0_9.length c0_9]) (t := 28) ?hr_3 ?_; (case hd_3 => rfl); (case hg_3 => rfl); (case hr_3 => first | (go_simp; done) | (go_simp; rfl)); intro gb199 hg w6 hbox hb; have n0_ := Aside0.mk (below_step (by repeat (first | (with_reducible first | exact HB.out | apply below_alloc | apply pw_below_drewN | apply below_drew1) | exact HB.out)) hb); have n1_ := Aside0.mk (hbox); have n2_ := Aside0.mk ((by rw [hg]; exact (below_size (by repeat (first | (with_reducible first | exact HB.out | apply below_alloc | apply pw_below_drewN | apply below_drew1) | exact HB.out))) : w.heap.size ≤ gb199)); have n3_ := Aside0.mk ((by rw [hg]; exact (below_size (by repeat (first | (with_reducible first | exact HB.out | apply below_alloc | apply pw_below_drewN | apply below_drew1) | exact HB.out))) : w.heap.size ≤ gb199)); clear HB; have HB := n0_; have BK199 := n1_; have GW199 := n2_; have GE199 := n3_; clear n0_ n1_ n2_ n3_; clear hb hbox hg; have hcz7_0 : w6.cell? ⟨gb199, 0, none⟩ = some (.int .i64 a0_0) := (blk_cell BK199.out 0).trans rfl; have hcz7_1 : w6.cell? ⟨gb199, 1, none⟩ = some (.int .u32 a0_1) := (blk_cell BK199.out 1).trans rfl; have hcz7_2 : w6.cell? ⟨gb199, 2, none⟩ = some (.int .i64 a0_2) := (blk_cell BK199.out 2).trans rfl; have hcz7_3 : w6.cell? ⟨gb199, 3, none⟩ = some (.int .i64 a0_3) := (blk_cell BK199.out 3).trans rfl; have hcz7_4 : w6.cell? ⟨gb199, 4, none⟩ = some (.int .u32 a0_4) := (blk_cell BK199.out 4).trans rfl; have hcz7_5 : w6.cell? ⟨gb199, 5, none⟩ = some (.int .u32 a0_5) := (blk_cell BK199.out 5).trans rfl; have hcz7_6 : w6.cell? ⟨gb199, 6, none⟩ = some (.int .u32 a0_6) := (blk_cell BK199.out 6).trans rfl; have hcz7_7 : w6.cell? ⟨gb199, 7, none⟩ = some (.int .u32 a0_7) := (blk_cell BK199.out 7).trans rfl; have hcz7_8 : w6.cell? ⟨gb199, 8, none⟩ = some (.slice A0_8 l0_8.length c0_8) := (blk_cell BK199.out 8).trans rfl; have hcz7_9 : w6.cell? ⟨gb199, 9, none⟩ = some (.slice A0_9 l0_9.length c0_9) := (blk_cell BK199.out 9).trans rfl; have hfz7_0 := blk_frozen BK199.out 0; have hfz7_1 := blk_frozen BK199.out 1; have hfz7_2 := blk_frozen BK199.out 2; have hfz7_3 := blk_frozen BK199.out 3; have hfz7_4 := blk_frozen BK199.out 4; have hfz7_5 := blk_frozen BK199.out 5; have hfz7_6 := blk_frozen BK199.out 6; have hfz7_7 := blk_frozen BK199.out 7; have hfz7_8 := blk_frozen BK199.out 8; have hfz7_9 := blk_frozen BK199.out 9) | ((with_reducible refine gate_callee (f := 12) rfl ?_); refine goesL_ (some 6) rfl rfl Try.func12 (by kernel_rfl) rfl #[.slice A0_9 l0_9.length c0_9] rfl (by (try simp only [List.map_toArray, List.map_cons, List.map_nil]); first | done | rfl | (simp only [List.length_drop, List.length_take]; rfl)) ?_; (with_reducible refine (lessorref02_Few.calls k _ _ l0_9 false _ ?side1_4 ?side2_4 A2.out).mono ?_); (case side1_4 => repeat (first | exact (Kd.C_below HR0_9.out HB.out) | exact (Kd.C_below (Aside0.out (by assumption)) HB.out) | (with_reducible refine Kd.C_alloc ?_ _) | (with_reducible refine Kd.C_drewN ?_ _) | (with_reducible refine Kd.C_drew ?_))); (case side2_4 => exact HC0_9.out); rintro e w' ⟨rfl, ⟨nd, rfl⟩⟩; refine ⟨_, rfl, ?_⟩))
  go_ret
  exact ⟨by first | rfl | (simp [errW_none, errW_some] <;> rfl) | (simp [*, errW_none, errW_some] <;> rfl), by repeat (first | (with_reducible first | exact HB.out | apply below_alloc | apply pw_below_drewN | apply below_drew1 | refine below_set ?_ GE199.out) | exact HB.out)⟩

end Go.Proofs.Ytnkajghemggaaaa.Pr
end

section
namespace Go.Proofs.Ytnkajghemggaaaa.PS
open Go.RowKit Go.Proofs.Ytnkajghemggaaaa Go.Proofs.Ytnkajghemggaaaa.Pr Go.Proofs.YtnkajghemggaaaaW.PrintWords Go.Proofs.YtnkajghemggaaaaW.PrintLast Go.Proofs.YtnkajghemggaaaaW.PrintMore
set_option linter.unusedVariables false
set_option linter.unusedSimpArgs false

theorem wrapS {x : Int} (h0 : 0 ≤ x) (h1 : x < 9223372036854775808) : wrap64 x = x := by unfold wrap64; omega
theorem few3_eq (a0 a1 a2 a3 a4 a5 a6 a7 : Int) (l8 : List Int) (l9 : List OptF) (k : Nat) (hk : 101 ≤ k) : ∃ b : Bool, lessorref03_Few.f k a0 a1 a2 a3 a4 a5 a6 a7 l8 l9 = some b ∧ (b = true → PL.few l9 ∧ l8.length < 1000) := by
  obtain ⟨b, hb, hf⟩ := PL.few_eq l9 k hk
  unfold lessorref03_Few.f
  rw [hb]
  cases b with
  | false => exact ⟨false, by simp, fun h => by cases h⟩
  | true =>
    simp only [Option.bind_some, if_true]
    exact ⟨_, rfl, fun h => ⟨hf.1 rfl, by have := of_decide_eq_true h; omega⟩⟩
theorem few_fewP {l8 : List Int} {l9 : List OptF} (h : PL.few l9) (h8 : l8.length < 1000) : fewP l8 l9 := ⟨h8, by have := h.1; omega, h.2⟩

theorem opFind_fd {l8 : List Int} {l9 : List OptF} (hf : fewP l8 l9) (hb : bytesO l9) : (∀ y ∈ (opFind l9 82).1, 0 ≤ y ∧ y ≤ 255) ∧ (opFind l9 82).1.length ≤ 1000 :=
  ⟨opFind_all (p := fun d => ∀ y ∈ d, 0 ≤ y ∧ y ≤ 255) hb (by simp), opFind_all (p := fun d => d.length ≤ 1000) hf.2.2 (by simp)⟩
theorem find_not {l : List OptF} (h : (opFind l 82).2 = false) : l.filter (fun x => !(x.f0 == 82)) = l := by
  rw [List.filter_eq_self]
  intro x hx
  unfold opFind at h
  split at h
  · cases h
  · rename_i hn
    have := List.find?_eq_none.1 hn x hx
    simpa using this
theorem put_filter {l : List OptF} (h : (opFind l 82).2 = false) (b : List Int) : (opPut l 82 b).filter (fun x => !(x.f0 == 82)) = l := (put_others 82 b l).trans (find_not h)
theorem put_all {l : List OptF} {b : List Int} (hl : bytesO l) (hb : ∀ y ∈ b, 0 ≤ y ∧ y ≤ 255) : bytesO (opPut l 82 b) := by
  induction l with
  | nil =>
    intro x hx
    rw [opPut_nil] at hx
    rw [List.mem_singleton.1 hx]
    exact hb
  | cons y l ih =>
    intro x hx
    rw [opPut_cons] at hx
    split at hx
    · rcases List.mem_cons.1 hx with rfl | hx
      · exact hb
      · exact hl x (List.mem_cons_of_mem _ (List.mem_filter.1 hx).1)
    · rcases List.mem_cons.1 hx with rfl | hx
      · exact hl _ (List.mem_cons_self ..)
      · exact ih (fun z hz => hl z (List.mem_cons_of_mem _ hz)) x hx
theorem dec_enc {l : List OptF} {b : List Int} (h : PL.encR l = (b, 0)) : PL.decR b = (l, 0) ∧ PL.enc l = b := by
  unfold PL.encR at h
  split at h
  · rename_i ok
    split at h
    · exact absurd (Prod.mk.inj h).2 (by decide)
    · obtain ⟨rfl, _⟩ := Prod.mk.inj h
      refine ⟨?_, rfl⟩
      unfold PL.decR
      rw [PL.rdL_enc l ok.2]
      simp only [List.nil_append]
      rw [if_pos ⟨PL.enc_ne ok.1, by omega⟩]
  · exact absurd (Prod.mk.inj h).2 (by decide)
theorem addR_len (a0 a1 a2 a3 a4 a5 a6 a7 : Int) (l8 : List Int) (l9 : List OptF) (g : Int) (l : List OptF) (h : l9.length ≤ 199) : (addR a0 a1 a2 a3 a4 a5 a6 a7 l8 l9 g l).2.2.2.2.2.2.2.2.2.1.length ≤ 200 := by
  unfold addR
  split
  · split
    · simp
    · split
      · split
        · have := opPut_len l9 82 (PL.encR l).1
          simp only; omega
        · simp
      · simp
  · simp
theorem stripR_len (a0 a1 a2 a3 a4 a5 a6 a7 : Int) (l8 : List Int) (l9 : List OptF) (h : l9.length ≤ 199) : (stripR a0 a1 a2 a3 a4 a5 a6 a7 l8 l9).2.2.2.2.2.2.2.2.2.1.length ≤ 199 ∧ (stripR a0 a1 a2 a3 a4 a5 a6 a7 l8 l9).2.2.2.2.2.2.2.2.2.2.1.length ≤ 255 := by
  unfold stripR
  split
  · split
    · split
      · refine ⟨Nat.le_trans (List.length_filter_le _ _) h, PL.decR_len _⟩
      · simp
    · simp
  · simp
end Go.Proofs.Ytnkajghemggaaaa.PS
end
