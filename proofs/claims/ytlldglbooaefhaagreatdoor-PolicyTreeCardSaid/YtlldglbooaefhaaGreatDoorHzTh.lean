/- Part of a proof: walks of functions of the program, by contracts, and the rules they use. By an AI agent. -/
import Derived.Test.YtlldglbooaefhaaGreatDoorHzU1
import Derived.Test.YtlldglbooaefhaaGreatDoorPl28k
import Derived.Test.YtlldglbooaefhaaGreatDoorHzSb
set_option linter.unusedSimpArgs false
set_option linter.unusedVariables false
set_option linter.defProp false
namespace Go.Proofs.YtlldglbooaefhaaGreatDoor
open Go Go.Hl Go.Pl
set_option maxRecDepth 10000
set_option maxHeartbeats 16000000

theorem co3 : Tryz.prog.cellsOf 3 = 1 := by kernel_rfl
theorem co2 : Tryz.prog.cellsOf 2 = 1 := by kernel_rfl
theorem co9 : Tryz.prog.cellsOf 9 = 1 := by kernel_rfl
theorem bW7 (n : Nat) (x : Rq) : CV.ofTy Tryz.prog (n + 2) 38 x.cv = true := by
 simp only [Rq.cv, CV.ofTyF, CV.ofTy, tyS, co2, co3, co9, CV.cells, beq_self_eq_true, Bool.and_true]
theorem aC0 (x y : Rq) (K : CV → Prop) : jP Tryz.prog .eql 38 (.c x.cv) (.c y.cv) K = K (.bool (fR x y)) := by
 have ha : aR7 Tryz.prog 38 = true := by kernel_rfl
 have h1 := bW7 6 x
 have h2 := bW7 6 y
 have e : CV.eqv (.agg [.int .i64 x.k, .int .i64 x.n, .int .i64 x.m, .str x.t]) (.agg [.int .i64 y.k, .int .i64 y.n, .int .i64 y.m, .str y.t]) = fR x y := by simp only [CV.eqv, CV.eqvL, fR, Bool.and_true]
 simp only [Rq.cv] at h1 h2 ⊢
 simp only [jP, ha, h1, h2, e, true_and]
theorem bL5 : CV.agg [.int .i64 0, .int .i64 0, .int .i64 0, .str []] = rq0.cv := rfl

theorem gT (n a b : Int) : bQ Tryz.prog 57 [.int .i64 n, .int .i64 a, .int .i64 b] (fun v => v = .bool (inB n a b)) := by
 refine FW Tryz.func57 ?_
 refine R0 ?_
 refine aB fun K hK => Rg ?_
 iterate 4 refine S0 ?_
 refine aD 9 rfl (fun h1_9 => ?_) (fun h1_9 => ?_)
 ·
  have F := h1_9
  iterate 5 refine SF ?_
  refine T2 (hK _ _ _ ?_)
  clear hK K
  refine aF (RT Tryz.results57 ?_)
  exact aG [] (.bool _) rfl (by simp only [inB, h1_9, Bool.true_and, Bool.false_and])
 have F := h1_9
 iterate 5 refine SF ?_
 refine T2 (hK _ _ _ ?_)
 clear hK K
 refine aF (RT Tryz.results57 ?_)
 exact aG [] (.bool _) rfl (by simp only [inB, h1_9, Bool.true_and, Bool.false_and])

theorem aK4 (q : Rq) (hn : q.t.length < 2 ^ 63) : bQ Tryz.prog 74 [q.cv] (fun v => v = .bool (dB q)) := by
 refine FW Tryz.func74 ?_
 refine R0 ?_
 refine aB fun K hK => Rg ?_
 iterate 5 refine S0 ?_
 refine T2 (hK _ _ _ ?_)
 clear hK K
 refine R0 ?_
 refine aB fun K hK => ?_
 have key0 : ∀ (s : Bool) (u : Rq) fr ob nx, dB q = (s && fR q u) → Fits 0 fr ob (fin [(1, .ptr 0 0), (3, .ptr 20 0), (4, .c (.bool s))]) (fob [(0, .box 38 (.c q.cv)), (20, .box 38 (.c u.cv))]) 1000 → K fr ob nx := by
  rintro s u fr ob nx hq hf
  refine hK _ _ _ (bS hf ?_)
  clear hf hK K
  refine aB fun K hK => Rg ?_
  have F := @aC0
  iterate 2 refine SF ?_
  refine aD 62 rfl (fun h18_62 => ?_) (fun h18_62 => ?_)
  ·
   have F := aI @aC0 h18_62
   iterate 5 refine SF ?_
   refine T2 (hK _ _ _ ?_)
   clear hK K
   refine aF (RT Tryz.results74 ?_)
   exact aG [] (.bool _) rfl (by rw [hq, h18_62, Bool.true_and])
  have F := aI @aC0 h18_62
  iterate 5 refine SF ?_
  refine T2 (hK _ _ _ ?_)
  clear hK K
  refine aF (RT Tryz.results74 ?_)
  exact aG [] (.bool false) rfl (by rw [hq, h18_62, Bool.false_and])
 refine R0 ?_
 refine aK ?_
 refine aB fun K hK => ?_
 have key : ∀ (b : Bool) fr ob nx, b = (q.k == 1 || (q.k == 3 || q.k == 5)) → Fits 0 fr ob (fin [(1, .ptr 0 0), (3, .ptr 20 0), (4, .c (.bool true)), (9, .c (.int .i64 q.k)), (10, .c (.bool b))]) (fob [(0, .box 38 (.c q.cv)), (20, .box 38 (.c (Rq.cv ⟨q.k, 0, 0, []⟩)))]) 300 → K fr ob nx := by
  rintro b fr ob nx rfl hf
  refine hK _ _ _ (bS hf ?_)
  clear hf hK K
  refine aH (b := _) rfl (fun hb => ?_) (fun hb => ?_)
  ·
   refine DW [(0, [], []), (1, [], []), (2, [], []), (3, [], []), (5, [], []), (4, [], [0, 1, 5]), (6, [], []), (7, [], [])] [0, 1, 0, 4, 12, 3, 63, 127] ?_
   iterate 5 refine W0 ?_
   refine cU (g := none) rfl rfl fun K' hK' => T5 ?_
   refine C3 (gT _ _ _) ?_
   rintro u rfl
   refine AX (hK' _ _ ?_)
   clear hK' K'
   iterate 2 refine W0 ?_
   refine T4 ?_
   exact key0 (inB q.n 1 32) ⟨q.k, q.n, 0, []⟩ _ _ _ (bK7 hb) (fF)
  have h1 := hb
  refine R0 ?_
  refine aH (b := _) rfl (fun hb => ?_) (fun hb => ?_)
  ·
   refine DW [(0, [], []), (1, [], []), (2, [], []), (3, [], []), (4, [], []), (5, [], []), (12, [], []), (6, [], [0, 1, 2, 3, 12]), (7, [], []), (8, [], []), (9, [], []), (10, [], [0, 1, 2, 3, 12]), (11, [], []), (13, [], [2, 3, 11]), (14, [], []), (15, [], [11]), (16, [], [])] [0, 1, 0, 4, 0, 16, 48, 112, 240, 496, 1008, 2032, 3, 6131, 14335, 30719, 65535] ?_
   iterate 7 refine W0 ?_
   refine cU (g := none) rfl rfl fun K' hK' => T5 ?_
   refine C3 (gT _ _ _) ?_
   rintro u rfl
   refine AX (hK' _ _ ?_)
   clear hK' K'
   refine W0 ?_
   refine aB1 28 rfl (fun h10_28 => ?_) (fun h10_28 => ?_)
   ·
    have F := h10_28
    iterate 2 refine WF ?_
    refine cU (g := some (29, true)) rfl rfl fun K' hK' => T6 ?_
    refine C3 (gT _ _ _) ?_
    rintro u rfl
    refine AX (hK' _ _ ?_)
    clear hK' K'
    iterate 5 refine WF ?_
    refine T4 ?_
    exact key0 (inB q.m 0 32) ⟨q.k, q.n, q.m, []⟩ _ _ _ (by rw [aK3 (by simpa using hb), h10_28, Bool.true_and]) (fF)
   have F := h10_28
   iterate 8 refine WF ?_
   refine T4 ?_
   exact key0 false ⟨q.k, q.n, q.m, []⟩ _ _ _ (by rw [aK3 (by simpa using hb), h10_28]; rfl) (fF)
  have h2 := hb
  refine R0 ?_
  refine aH (b := _) rfl (fun hb => ?_) (fun hb => ?_)
  ·
   refine DW [(0, [], []), (1, [], []), (2, [], []), (3, [], []), (5, [], []), (4, [], [0, 1, 5]), (6, [], []), (7, [], [])] [0, 1, 0, 4, 12, 3, 63, 127] ?_
   iterate 5 refine W0 ?_
   refine cU (g := none) rfl rfl fun K' hK' => T5 ?_
   refine C1 (aB5 _ hn) ?_
   rintro u rfl
   refine AX (hK' _ _ ?_)
   clear hK' K'
   iterate 2 refine W0 ?_
   refine T4 ?_
   exact key0 (dN q.t) ⟨q.k, 0, 0, q.t⟩ _ _ _ (bK8 (by simpa using hb)) (fF)
  have h3 := hb
  refine R0 ?_
  refine aH (b := _) rfl (fun hb => ?_) (fun hb => ?_)
  ·
   refine DW [(0, [], []), (1, [], []), (2, [], []), (3, [], []), (5, [], []), (4, [], [0, 1, 5]), (6, [], []), (7, [], [])] [0, 1, 0, 4, 12, 3, 63, 127] ?_
   iterate 5 refine W0 ?_
   refine cU (g := none) rfl rfl fun K' hK' => T5 ?_
   refine C3 (gT _ _ _) ?_
   rintro u rfl
   refine AX (hK' _ _ ?_)
   clear hK' K'
   iterate 2 refine W0 ?_
   refine T4 ?_
   exact key0 (inB q.n 1 10) ⟨q.k, q.n, 0, []⟩ _ _ _ (bK9 (by simpa using hb)) (fF)
  have h4 := hb
  refine R0 ?_
  refine aH (b := _) rfl (fun hb => ?_) (fun hb => ?_)
  ·
   refine DW [(0, [], []), (1, [], []), (2, [], []), (3, [], []), (5, [], []), (4, [], [0, 1, 5]), (6, [], []), (7, [], [])] [0, 1, 0, 4, 12, 3, 63, 127] ?_
   iterate 5 refine W0 ?_
   refine cU (g := none) rfl rfl fun K' hK' => T5 ?_
   refine C3 (gT _ _ _) ?_
   rintro u rfl
   refine AX (hK' _ _ ?_)
   clear hK' K'
   iterate 2 refine W0 ?_
   refine T4 ?_
   exact key0 (inB q.n 0 1099511627776) ⟨q.k, q.n, 0, []⟩ _ _ _ (bL0 (by simpa using hb)) (fF)
  have h5 := hb
  refine R0 ?_
  refine aH (b := _) rfl (fun hb => ?_) (fun hb => ?_)
  ·
   refine aJ (T3 ?_)
   exact key0 true ⟨q.k, 0, 0, []⟩ _ _ _ (bL1 (by simpa using hb)) (fF)
  refine R0 ?_
  refine aF (RT Tryz.results74 ?_)
  exact aG [] (.bool false) rfl (by rw [aV3 h1 (by simpa using h2) (by simpa using h3) (by simpa using h4) (by simpa using h5) (by simpa using hb)])
 refine R0 ?_
 refine aH (b := _) rfl (fun hb => ?_) (fun hb => ?_)
 ·
  refine aJ (T3 ?_)
  exact key (q.k == 1) _ _ _ (by rw [hb]; rfl) (fF)
 have h1 := hb
 refine R0 ?_
 refine aH (b := _) rfl (fun hb => ?_) (fun hb => ?_)
 ·
  refine aJ (T3 ?_)
  exact key (q.k == 3) _ _ _ (by rw [h1, hb]; rfl) (fF)
 have h1' := hb
 refine aL (by kernel_rfl) ?_
 simp only [↓sP, sA, tyS, simprocAttr]
 exact key (q.k == 5) _ _ _ (by rw [h1, h1']; rfl) (fF)


theorem bL6 (n : Nd) (hn : n.q.t.length < 2 ^ 63) : bQ Tryz.prog 42 [n.cv] (fun v => v = .bool (bT n)) := by
 refine FW Tryz.func42 ?_
 refine R0 ?_
 refine aB fun K hK => ?_
 have key : ∀ (b : Bool) fr ob nx, b = (inB n.c 1 60 && fR n.q rq0) → Fits 0 fr ob (fin [(1, .ptr 0 0), (3, .c (.bool b))]) (fob [(0, .box 40 (.c n.cv))]) 100 → K fr ob nx := by
  rintro b fr ob nx rfl hf
  refine hK _ _ _ (bS hf ?_)
  clear hf hK K
  refine aB fun K hK => ?_
  refine R0 ?_
  refine aK ?_
  refine R0 ?_
  refine aH (b := _) rfl (fun hb => ?_) (fun hb => ?_)
  ·
   refine aB fun K hK => Rg ?_
   iterate 4 refine S0 ?_
   refine aD 24 rfl (fun h4_24 => ?_) (fun h4_24 => ?_)
   ·
    have F := h4_24
    iterate 5 refine SF ?_
    refine aD 28 rfl (fun h4_28 => ?_) (fun h4_28 => ?_)
    ·
     have F := aI h4_24 h4_28
     iterate 2 refine SF ?_
     refine aU (g := some (30, true)) rfl rfl fun K' hK' => T6 ?_
     refine C1 (aK4 n.q hn) ?_
     rintro u rfl
     refine AX (hK' _ _ ?_)
     clear hK' K'
     iterate 2 refine SF ?_
     refine T2 (hK _ _ _ ?_)
     clear hK K
     refine aF (RT Tryz.results42 ?_)
     exact aG [] (.bool _) rfl (by rw [pG (by simpa using hb), h4_24, h4_28]; rfl)
    have F := aI h4_24 h4_28
    iterate 5 refine SF ?_
    refine T2 (hK _ _ _ ?_)
    clear hK K
    refine aF (RT Tryz.results42 ?_)
    exact aG [] (.bool _) rfl (by rw [pG (by simpa using hb), h4_24, h4_28]; rfl)
   have F := h4_24
   iterate 10 refine SF ?_
   refine T2 (hK _ _ _ ?_)
   clear hK K
   refine aF (RT Tryz.results42 ?_)
   exact aG [] (.bool _) rfl (by rw [pG (by simpa using hb), h4_24]; rfl)
  have h1 : n.k ≠ 1 := by simpa using hb
  refine aB fun K hK => ?_
  have key2 : ∀ (b : Bool) fr ob nx, b = (n.k == 2 || n.k == 3) → Fits 0 fr ob (fin [(1, .ptr 0 0), (3, .c (.bool (inB n.c 1 60 && fR n.q rq0))), (19, .c (.int .i64 n.k)), (35, .c (.bool b))]) (fob [(0, .box 40 (.c n.cv))]) 300 → K fr ob nx := by
   rintro b fr ob nx rfl hf
   refine hK _ _ _ (bS hf ?_)
   clear hf hK K
   refine aH (b := _) rfl (fun hb => ?_) (fun hb => ?_)
   ·
    refine aB fun K hK => Rg ?_
    iterate 2 refine S0 ?_
    refine aD 38 rfl (fun h7_38 => ?_) (fun h7_38 => ?_)
    ·
     have F := h7_38
     iterate 5 refine SF ?_
     refine T2 (hK _ _ _ ?_)
     clear hK K
     refine aF (RT Tryz.results42 ?_)
     exact aG [] (.bool _) rfl (by rw [zE hb, h7_38, Bool.true_and])
    have F := h7_38
    iterate 5 refine SF ?_
    refine T2 (hK _ _ _ ?_)
    clear hK K
    refine aF (RT Tryz.results42 ?_)
    exact aG [] (.bool _) rfl (by rw [zE hb, h7_38, Bool.false_and])
   have h2 := hb
   refine R0 ?_
   refine aH (b := _) rfl (fun hb => ?_) (fun hb => ?_)
   ·
    refine aB fun K hK => Rg ?_
    iterate 2 refine S0 ?_
    refine aD 46 rfl (fun h9_46 => ?_) (fun h9_46 => ?_)
    ·
     have F := h9_46
     iterate 5 refine SF ?_
     refine aD 50 rfl (fun h9_50 => ?_) (fun h9_50 => ?_)
     ·
      have F := aI h9_46 h9_50
      iterate 7 refine SF ?_
      refine T2 (hK _ _ _ ?_)
      clear hK K
      refine aF (RT Tryz.results42 ?_)
      exact aG [] (.bool _) rfl (by rw [pH (by simpa using hb), h9_46, inB, h9_50]; rfl)
     have F := aI h9_46 h9_50
     iterate 7 refine SF ?_
     refine T2 (hK _ _ _ ?_)
     clear hK K
     refine aF (RT Tryz.results42 ?_)
     exact aG [] (.bool _) rfl (by rw [pH (by simpa using hb), h9_46, inB, h9_50]; rfl)
    have F := h9_46
    iterate 12 refine SF ?_
    refine T2 (hK _ _ _ ?_)
    clear hK K
    refine aF (RT Tryz.results42 ?_)
    exact aG [] (.bool _) rfl (by rw [pH (by simpa using hb), h9_46, Bool.false_and])
   refine aJ ?_
   refine T0 (hK _ _ _ ?_)
   clear hK K
   refine R0 ?_
   refine aF (RT Tryz.results42 ?_)
   exact aG [] (.bool _) rfl (by rw [bL2 h1 h2 (by simpa using hb)])
  refine R0 ?_
  refine aH (b := _) rfl (fun hb => ?_) (fun hb => ?_)
  ·
   refine aJ (T3 ?_)
   exact key2 (n.k == 2) _ _ _ (by rw [hb]; rfl) (fF)
  have h2 := hb
  refine aL (by kernel_rfl) ?_
  simp only [↓sP, sA, tyS, simprocAttr]
  exact key2 (n.k == 3) _ _ _ (by rw [hb]; rfl) (fF)
 refine Rg ?_
 have F := aI @aC0 @bL5
 iterate 4 refine SF ?_
 refine aD 6 rfl (fun h1_6 => ?_) (fun h1_6 => ?_)
 ·
  have F := aI @aC0 (aI @bL5 h1_6)
  iterate 5 refine SF ?_
  refine aD 10 rfl (fun h1_10 => ?_) (fun h1_10 => ?_)
  ·
   have F := aI @aC0 (aI @bL5 (aI h1_6 h1_10))
   iterate 6 refine SF ?_
   refine aD 16 rfl (fun h1_16 => ?_) (fun h1_16 => ?_)
   ·
    simp only [h1_16]
    refine T4 ?_
    exact key true _ _ _ (by first | (simp only [inB, rq0, h1_6, h1_10, h1_16, Bool.true_and, Bool.false_and, Bool.and_false, Bool.and_true]; done) | (simp only [inB, h1_6, h1_10, Bool.true_and]; exact Eq.symm h1_16)) (fF)
   simp only [h1_16]
   refine T4 ?_
   exact key false _ _ _ (by first | (simp only [inB, rq0, h1_6, h1_10, h1_16, Bool.true_and, Bool.false_and, Bool.and_false, Bool.and_true]; done) | (simp only [inB, h1_6, h1_10, Bool.true_and]; exact Eq.symm h1_16)) (fF)
  have F := aI @aC0 (aI @bL5 (aI h1_6 h1_10))
  iterate 6 refine SF ?_
  refine T4 ?_
  exact key false _ _ _ (by first | (simp only [inB, rq0, h1_6, h1_10, Bool.true_and, Bool.false_and, Bool.and_false, Bool.and_true]; done) | (simp only [inB, h1_6, h1_10, Bool.true_and]; exact Eq.symm h1_16)) (fF)
 have F := aI @aC0 (aI @bL5 h1_6)
 iterate 11 refine SF ?_
 refine T4 ?_
 exact key false _ _ _ (by first | (simp only [inB, rq0, h1_6, Bool.true_and, Bool.false_and, Bool.and_false, Bool.and_true]; done) | (simp only [inB, h1_6, h1_10, Bool.true_and]; exact Eq.symm h1_16)) (fF)


end Go.Proofs.YtlldglbooaefhaaGreatDoor

namespace Go.Proofs.YtlldglbooaefhaaGreatDoor
open Go Go.Hl Go.Pl
set_option maxRecDepth 10000
set_option maxHeartbeats 16000000

theorem bT4 (q : Rq) (hn : q.t.length < 2 ^ 63) : bQ Tryz.prog 75 [q.cv] (fun v => v = .bool (dB q)) := by
 refine FW Tryz.func75 ?_
 refine R0 ?_
 refine aB fun K hK => ?_
 have key0 : ∀ (b : Bool) fr ob nx, b = inB q.n 1 32 → Fits 0 fr ob (fin [(1, .ptr 0 0), (3, .c (.bool b))]) (fob [(0, .box 38 (.c q.cv))]) 100 → K fr ob nx := by
  rintro b fr ob nx rfl hf
  refine hK _ _ _ (bS hf ?_)
  clear hf hK K
  refine aB fun K hK => ?_
  refine R0 ?_
  refine aK ?_
  refine aB fun K hK => ?_
  have key : ∀ (b : Bool) fr ob nx, b = (q.k == 1 || (q.k == 3 || q.k == 5)) → Fits 0 fr ob (fin [(1, .ptr 0 0), (3, .c (.bool (inB q.n 1 32))), (13, .c (.int .i64 q.k)), (14, .c (.bool b))]) (fob [(0, .box 38 (.c q.cv))]) 300 → K fr ob nx := by
   rintro b fr ob nx rfl hf
   refine hK _ _ _ (bS hf ?_)
   clear hf hK K
   refine aH (b := _) rfl (fun hb => ?_) (fun hb => ?_)
   ·
    refine aB fun K hK => Rg ?_
    iterate 2 refine S0 ?_
    refine aD 18 rfl (fun h6_18 => ?_) (fun h6_18 => ?_)
    ·
     have F := h6_18
     iterate 5 refine SF ?_
     refine aD 22 rfl (fun h6_22 => ?_) (fun h6_22 => ?_)
     ·
      have F := aI h6_18 h6_22
      iterate 5 refine SF ?_
      refine T2 (hK _ _ _ ?_)
      clear hK K
      refine aF (RT Tryz.results75 ?_)
      exact aG [] (.bool _) rfl (by rw [wI hb, h6_18, h6_22]; rfl)
     have F := aI h6_18 h6_22
     iterate 5 refine SF ?_
     refine T2 (hK _ _ _ ?_)
     clear hK K
     refine aF (RT Tryz.results75 ?_)
     exact aG [] (.bool _) rfl (by rw [wI hb, h6_18, h6_22]; rfl)
    have F := h6_18
    iterate 10 refine SF ?_
    refine T2 (hK _ _ _ ?_)
    clear hK K
    refine aF (RT Tryz.results75 ?_)
    exact aG [] (.bool _) rfl (by rw [wI hb, h6_18]; rfl)
   have h1 := hb
   refine R0 ?_
   refine aH (b := _) rfl (fun hb => ?_) (fun hb => ?_)
   ·
    refine aB fun K hK => Rg ?_
    iterate 2 refine S0 ?_
    refine aD 31 rfl (fun h8_31 => ?_) (fun h8_31 => ?_)
    ·
     have F := h8_31
     iterate 5 refine SF ?_
     refine aD 35 rfl (fun h8_35 => ?_) (fun h8_35 => ?_)
     ·
      have F := aI h8_31 h8_35
      iterate 5 refine SF ?_
      refine aD 40 rfl (fun h8_40 => ?_) (fun h8_40 => ?_)
      ·
       have F := aI h8_31 (aI h8_35 h8_40)
       iterate 5 refine SF ?_
       refine T2 (hK _ _ _ ?_)
       clear hK K
       refine aF (RT Tryz.results75 ?_)
       exact aG [] (.bool _) rfl (by rw [qQ hb, h8_31, h8_35, h8_40]; rfl)
      have F := aI h8_31 (aI h8_35 h8_40)
      iterate 5 refine SF ?_
      refine T2 (hK _ _ _ ?_)
      clear hK K
      refine aF (RT Tryz.results75 ?_)
      exact aG [] (.bool _) rfl (by rw [qQ hb, h8_31, h8_35, h8_40]; rfl)
     have F := aI h8_31 h8_35
     iterate 10 refine SF ?_
     refine T2 (hK _ _ _ ?_)
     clear hK K
     refine aF (RT Tryz.results75 ?_)
     exact aG [] (.bool _) rfl (by rw [qQ hb, h8_31, h8_35]; rfl)
    have F := h8_31
    iterate 15 refine SF ?_
    refine T2 (hK _ _ _ ?_)
    clear hK K
    refine aF (RT Tryz.results75 ?_)
    exact aG [] (.bool _) rfl (by rw [qQ hb, h8_31]; rfl)
   have h2 := hb
   refine R0 ?_
   refine aH (b := _) rfl (fun hb => ?_) (fun hb => ?_)
   ·
    refine aB fun K hK => Rg ?_
    iterate 4 refine S0 ?_
    refine aD 51 rfl (fun h10_51 => ?_) (fun h10_51 => ?_)
    ·
     have F := h10_51
     iterate 5 refine SF ?_
     refine aD 55 rfl (fun h10_55 => ?_) (fun h10_55 => ?_)
     ·
      have F := aI h10_51 h10_55
      iterate 2 refine SF ?_
      refine aU (g := some (57, true)) rfl rfl fun K' hK' => T6 ?_
      refine C1 (bH0 _ hn) ?_
      rintro u rfl
      refine AX (hK' _ _ ?_)
      clear hK' K'
      iterate 2 refine SF ?_
      refine T2 (hK _ _ _ ?_)
      clear hK K
      refine aF (RT Tryz.results75 ?_)
      exact aG [] (.bool _) rfl (by rw [wJ hb, h10_51, h10_55]; rfl)
     have F := aI h10_51 h10_55
     iterate 5 refine SF ?_
     refine T2 (hK _ _ _ ?_)
     clear hK K
     refine aF (RT Tryz.results75 ?_)
     exact aG [] (.bool _) rfl (by rw [wJ hb, h10_51, h10_55]; rfl)
    have F := h10_51
    iterate 10 refine SF ?_
    refine T2 (hK _ _ _ ?_)
    clear hK K
    refine aF (RT Tryz.results75 ?_)
    exact aG [] (.bool _) rfl (by rw [wJ hb, h10_51]; rfl)
   have h3 := hb
   refine R0 ?_
   refine aH (b := _) rfl (fun hb => ?_) (fun hb => ?_)
   ·
    refine aB fun K hK => Rg ?_
    iterate 4 refine S0 ?_
    refine aD 66 rfl (fun h12_66 => ?_) (fun h12_66 => ?_)
    ·
     have F := h12_66
     iterate 5 refine SF ?_
     refine aD 70 rfl (fun h12_70 => ?_) (fun h12_70 => ?_)
     ·
      have F := aI h12_66 h12_70
      iterate 5 refine SF ?_
      refine aD 75 rfl (fun h12_75 => ?_) (fun h12_75 => ?_)
      ·
       have F := aI h12_66 (aI h12_70 h12_75)
       iterate 5 refine SF ?_
       refine T2 (hK _ _ _ ?_)
       clear hK K
       refine aF (RT Tryz.results75 ?_)
       exact aG [] (.bool _) rfl (by rw [qR hb, h12_66, h12_70, h12_75]; rfl)
      have F := aI h12_66 (aI h12_70 h12_75)
      iterate 5 refine SF ?_
      refine T2 (hK _ _ _ ?_)
      clear hK K
      refine aF (RT Tryz.results75 ?_)
      exact aG [] (.bool _) rfl (by rw [qR hb, h12_66, h12_70, h12_75]; rfl)
     have F := aI h12_66 h12_70
     iterate 10 refine SF ?_
     refine T2 (hK _ _ _ ?_)
     clear hK K
     refine aF (RT Tryz.results75 ?_)
     exact aG [] (.bool _) rfl (by rw [qR hb, h12_66, h12_70]; rfl)
    have F := h12_66
    iterate 15 refine SF ?_
    refine T2 (hK _ _ _ ?_)
    clear hK K
    refine aF (RT Tryz.results75 ?_)
    exact aG [] (.bool _) rfl (by rw [qR hb, h12_66]; rfl)
   have h4 := hb
   refine R0 ?_
   refine aH (b := _) rfl (fun hb => ?_) (fun hb => ?_)
   ·
    refine aB fun K hK => Rg ?_
    iterate 2 refine S0 ?_
    refine HS rfl rfl fun K' hK' => T5 ?_
    refine C1 (aP1 _) ?_
    rintro u rfl
    refine AX (hK' _ _ ?_)
    clear hK' K'
    refine S0 ?_
    refine aD 86 rfl (fun h14_86 => ?_) (fun h14_86 => ?_)
    ·
     have F := h14_86
     iterate 5 refine SF ?_
     refine aD 90 rfl (fun h14_90 => ?_) (fun h14_90 => ?_)
     ·
      have F := aI h14_86 h14_90
      iterate 5 refine SF ?_
      refine T2 (hK _ _ _ ?_)
      clear hK K
      refine aF (RT Tryz.results75 ?_)
      exact aG [] (.bool _) rfl (by rw [wK hb, h14_86, h14_90]; rfl)
     have F := aI h14_86 h14_90
     iterate 5 refine SF ?_
     refine T2 (hK _ _ _ ?_)
     clear hK K
     refine aF (RT Tryz.results75 ?_)
     exact aG [] (.bool _) rfl (by rw [wK hb, h14_86, h14_90]; rfl)
    have F := h14_86
    iterate 10 refine SF ?_
    refine T2 (hK _ _ _ ?_)
    clear hK K
    refine aF (RT Tryz.results75 ?_)
    exact aG [] (.bool _) rfl (by rw [wK hb, h14_86]; rfl)
   have h5 := hb
   refine R0 ?_
   refine aH (b := _) rfl (fun hb => ?_) (fun hb => ?_)
   ·
    refine aB fun K hK => Rg ?_
    iterate 4 refine S0 ?_
    refine aD 101 rfl (fun h16_101 => ?_) (fun h16_101 => ?_)
    ·
     have F := h16_101
     iterate 5 refine SF ?_
     refine aD 105 rfl (fun h16_105 => ?_) (fun h16_105 => ?_)
     ·
      have F := aI h16_101 h16_105
      iterate 5 refine SF ?_
      refine T2 (hK _ _ _ ?_)
      clear hK K
      refine aF (RT Tryz.results75 ?_)
      exact aG [] (.bool _) rfl (by rw [wL hb, h16_101, h16_105]; rfl)
     have F := aI h16_101 h16_105
     iterate 5 refine SF ?_
     refine T2 (hK _ _ _ ?_)
     clear hK K
     refine aF (RT Tryz.results75 ?_)
     exact aG [] (.bool _) rfl (by rw [wL hb, h16_101, h16_105]; rfl)
    have F := h16_101
    iterate 10 refine SF ?_
    refine T2 (hK _ _ _ ?_)
    clear hK K
    refine aF (RT Tryz.results75 ?_)
    exact aG [] (.bool _) rfl (by rw [wL hb, h16_101]; rfl)
   refine aJ ?_
   refine T0 (hK _ _ _ ?_)
   clear hK K
   refine R0 ?_
   refine aF (RT Tryz.results75 ?_)
   exact aG [] (.bool false) rfl (by rw [aV3 h1 (by simpa using h2) (by simpa using h3) (by simpa using h4) (by simpa using h5) (by simpa using hb)])
  refine R0 ?_
  refine aH (b := _) rfl (fun hb => ?_) (fun hb => ?_)
  ·
   refine aJ (T3 ?_)
   exact key (q.k == 1) _ _ _ (by rw [hb]; rfl) (fF)
  have h1 := hb
  refine R0 ?_
  refine aH (b := _) rfl (fun hb => ?_) (fun hb => ?_)
  ·
   refine aJ (T3 ?_)
   exact key (q.k == 3) _ _ _ (by rw [h1, hb]; rfl) (fF)
  have h1' := hb
  refine aL (by kernel_rfl) ?_
  simp only [↓sP, sA, tyS, simprocAttr]
  exact key (q.k == 5) _ _ _ (by rw [h1, h1']; rfl) (fF)
 refine Rg ?_
 iterate 4 refine S0 ?_
 refine aD 6 rfl (fun h1_6 => ?_) (fun h1_6 => ?_)
 ·
  have F := h1_6
  iterate 5 refine SF ?_
  refine aD 10 rfl (fun h1_10 => ?_) (fun h1_10 => ?_)
  ·
   simp only [h1_10]
   refine T4 ?_
   exact key0 true _ _ _ (by simp only [inB, h1_6, h1_10, Bool.true_and, Bool.false_and]) (fF)
  simp only [h1_10]
  refine T4 ?_
  exact key0 false _ _ _ (by simp only [inB, h1_6, h1_10, Bool.true_and, Bool.false_and]) (fF)
 have F := h1_6
 iterate 5 refine SF ?_
 refine T4 ?_
 exact key0 false _ _ _ (by simp only [inB, h1_6, Bool.true_and, Bool.false_and]) (fF)


theorem bL7 (n : Nd) (hn : n.q.t.length < 2 ^ 63) : bQ Tryz.prog 43 [n.cv] (fun v => v = .bool (nH n)) := by
 refine FW Tryz.func43 ?_
 refine R0 ?_
 refine aB fun K hK => Rg ?_
 have F := @aC0
 iterate 5 refine SF ?_
 refine T2 (hK _ _ _ ?_)
 clear hK K
 refine aB fun K hK => ?_
 refine R0 ?_
 refine aK ?_
 refine R0 ?_
 refine aH (b := _) rfl (fun hb => ?_) (fun hb => ?_)
 ·
  refine aB fun K hK => Rg ?_
  iterate 4 refine S0 ?_
  refine aD 14 rfl (fun h4_14 => ?_) (fun h4_14 => ?_)
  ·
   have F := h4_14
   iterate 5 refine SF ?_
   refine aD 18 rfl (fun h4_18 => ?_) (fun h4_18 => ?_)
   ·
    have F := aI h4_14 h4_18
    iterate 2 refine SF ?_
    refine aU (g := some (20, true)) rfl rfl fun K' hK' => T6 ?_
    refine C1 (bT4 n.q hn) ?_
    rintro u rfl
    refine AX (hK' _ _ ?_)
    clear hK' K'
    iterate 2 refine SF ?_
    refine T2 (hK _ _ _ ?_)
    clear hK K
    refine aF (RT Tryz.results43 ?_)
    exact aG [] (.bool _) rfl (by rw [pI (by simpa using hb), h4_14, h4_18]; rfl)
   have F := aI h4_14 h4_18
   iterate 5 refine SF ?_
   refine T2 (hK _ _ _ ?_)
   clear hK K
   refine aF (RT Tryz.results43 ?_)
   exact aG [] (.bool _) rfl (by rw [pI (by simpa using hb), h4_14, h4_18]; rfl)
  have F := h4_14
  iterate 10 refine SF ?_
  refine T2 (hK _ _ _ ?_)
  clear hK K
  refine aF (RT Tryz.results43 ?_)
  exact aG [] (.bool _) rfl (by rw [pI (by simpa using hb), h4_14]; rfl)
 have h1 : n.k ≠ 1 := by simpa using hb
 refine aB fun K hK => ?_
 have key2 : ∀ (b : Bool) fr ob nx, b = (n.k == 2 || n.k == 3) → Fits 0 fr ob (fin [(1, .ptr 0 0), (3, .c (.bool (fR n.q rq0))), (9, .c (.int .i64 n.k)), (25, .c (.bool b))]) (fob [(0, .box 40 (.c n.cv))]) 300 → K fr ob nx := by
  rintro b fr ob nx rfl hf
  refine hK _ _ _ (bS hf ?_)
  clear hf hK K
  refine aH (b := _) rfl (fun hb => ?_) (fun hb => ?_)
  ·
   refine aB fun K hK => Rg ?_
   iterate 4 refine S0 ?_
   refine aD 30 rfl (fun h7_30 => ?_) (fun h7_30 => ?_)
   ·
    have F := h7_30
    iterate 5 refine SF ?_
    refine aD 34 rfl (fun h7_34 => ?_) (fun h7_34 => ?_)
    ·
     have F := aI h7_30 h7_34
     iterate 3 refine SF ?_
     refine T2 (hK _ _ _ ?_)
     clear hK K
     refine aF (RT Tryz.results43 ?_)
     exact aG [] (.bool _) rfl (by rw [sB hb, h7_30, h7_34]; rfl)
    have F := aI h7_30 h7_34
    iterate 3 refine SF ?_
    refine T2 (hK _ _ _ ?_)
    clear hK K
    refine aF (RT Tryz.results43 ?_)
    exact aG [] (.bool _) rfl (by rw [sB hb, h7_30, h7_34]; rfl)
   have F := h7_30
   iterate 8 refine SF ?_
   refine T2 (hK _ _ _ ?_)
   clear hK K
   refine aF (RT Tryz.results43 ?_)
   exact aG [] (.bool _) rfl (by rw [sB hb, h7_30]; rfl)
  have h2 := hb
  refine R0 ?_
  refine aH (b := _) rfl (fun hb => ?_) (fun hb => ?_)
  ·
   refine aB fun K hK => Rg ?_
   iterate 4 refine S0 ?_
   refine aD 43 rfl (fun h9_43 => ?_) (fun h9_43 => ?_)
   ·
    have F := h9_43
    iterate 5 refine SF ?_
    refine aD 47 rfl (fun h9_47 => ?_) (fun h9_47 => ?_)
    ·
     have F := aI h9_43 h9_47
     iterate 7 refine SF ?_
     refine aD 54 rfl (fun h9_54 => ?_) (fun h9_54 => ?_)
     ·
      have F := aI h9_43 (aI h9_47 h9_54)
      iterate 3 refine SF ?_
      refine T2 (hK _ _ _ ?_)
      clear hK K
      refine aF (RT Tryz.results43 ?_)
      exact aG [] (.bool _) rfl (by rw [lU (by simpa using hb), h9_43, h9_47, h9_54]; rfl)
     have F := aI h9_43 (aI h9_47 h9_54)
     iterate 3 refine SF ?_
     refine T2 (hK _ _ _ ?_)
     clear hK K
     refine aF (RT Tryz.results43 ?_)
     exact aG [] (.bool _) rfl (by rw [lU (by simpa using hb), h9_43, h9_47, h9_54]; rfl)
    have F := aI h9_43 h9_47
    iterate 10 refine SF ?_
    refine T2 (hK _ _ _ ?_)
    clear hK K
    refine aF (RT Tryz.results43 ?_)
    exact aG [] (.bool _) rfl (by rw [lU (by simpa using hb), h9_43, h9_47]; rfl)
   have F := h9_43
   iterate 15 refine SF ?_
   refine T2 (hK _ _ _ ?_)
   clear hK K
   refine aF (RT Tryz.results43 ?_)
   exact aG [] (.bool _) rfl (by rw [lU (by simpa using hb), h9_43]; rfl)
  refine aJ ?_
  refine T0 (hK _ _ _ ?_)
  clear hK K
  refine R0 ?_
  refine aF (RT Tryz.results43 ?_)
  exact aG [] (.bool _) rfl (by rw [bL3 h1 h2 (by simpa using hb)])
 refine R0 ?_
 refine aH (b := _) rfl (fun hb => ?_) (fun hb => ?_)
 ·
  refine aJ (T3 ?_)
  exact key2 (n.k == 2) _ _ _ (by rw [hb]; rfl) (aN (by omega) (by simp [bA, fin_at, finA_at, upd_at, HV.men, HV.menL, HV.norm, HV.toC, HV.toCL, rq0]) (by simp [aX, fob_at, upd_at, none0_at, bY, HO.men, HV.men, HV.menL, HV.norm, HV.toC, HV.toCL, rq0]))
 have h2 := hb
 refine aL (by kernel_rfl) ?_
 simp only [↓sP, sA, tyS, simprocAttr]
 exact key2 (n.k == 3) _ _ _ (by rw [hb]; rfl) (aN (by omega) (by simp [bA, fin_at, finA_at, upd_at, HV.men, HV.menL, HV.norm, HV.toC, HV.toCL, rq0]) (by simp [aX, fob_at, upd_at, none0_at, bY, HO.men, HV.men, HV.menL, HV.norm, HV.toC, HV.toCL, rq0]))

end Go.Proofs.YtlldglbooaefhaaGreatDoor

namespace Go.Proofs.YtlldglbooaefhaaGreatDoor
open Go Go.Hl Go.Pl
set_option maxRecDepth 10000
set_option maxHeartbeats 16000000

theorem bN (n : Int) (h : -4611686018427387904 ≤ n ∧ n ≤ 4611686018427387904) : IntKind.i64.wrap n = n := IntWalk.i64_in _ (by omega)

theorem qT (l : List Nd) (hn : ∀ n ∈ l, n.q.t.length < 2 ^ 63) : bQ Tryz.prog 13 [.slc (l.map Nd.cv)] (fun v => v = .bool (cP l)) := by
 refine FW Tryz.func13 ?_
 refine R0 ?_
 refine aB fun K hK => ?_
 refine aB fun K hK => Rg ?_
 iterate 4 refine S0 ?_
 refine aD 9 rfl (fun h1_9 => ?_) (fun h1_9 => ?_)
 ·
  have F := h1_9
  iterate 4 refine SF ?_
  refine T2 (hK _ _ _ ?_)
  clear hK K
  refine CT rfl ?_
  refine R0 ?_
  refine aF (RT Tryz.results13 ?_)
  exact aG [] (.bool false) rfl (by rw [kG (.inl (by simp only [decide_eq_true_eq] at h1_9; omega))])
 have F := h1_9
 iterate 4 refine SF ?_
 refine aD 13 rfl (fun h1_13 => ?_) (fun h1_13 => ?_)
 ·
  simp only [h1_13]
  refine T2 (hK _ _ _ ?_)
  clear hK K
  refine CT rfl ?_
  refine R0 ?_
  refine aF (RT Tryz.results13 ?_)
  exact aG [] (.bool false) rfl (by rw [kG (.inr (by simp only [decide_eq_true_eq] at h1_13; omega))])
 simp only [h1_13]
 refine T2 (hK _ _ _ ?_)
 clear hK K
 refine CF rfl ?_
 refine aJ ?_
 refine T0 (hK _ _ _ ?_)
 clear hK K
 have hl1 : 1 ≤ l.length := by simp only [decide_eq_false_iff_not] at h1_9; omega
 have hl2 : l.length ≤ 60 := by simp only [decide_eq_false_iff_not] at h1_13; omega
 clear h1_9 h1_13
 refine R0 ?_
 refine aB fun K hK => ?_
 refine R0 ?_
 refine aK ?_
 refine bE (α := {y : Nat × Int × Int // ScSt l y.1 y.2.1 y.2.2}) (fun y => (fin [(3, .c (.int .i64 y.1.2.1)), (4, .c (.int .i64 y.1.2.2)), (15, .c (.slc (l.map Nd.cv))), (16, .c (.int .i64 l.length)), (17, .c (.int .i64 y.1.1))], fob [])) 200 (fun y => l.length - y.1.1) ⟨(0, 1, 0), ScSt.init l⟩ (fF) ?_
 rintro ⟨⟨i, m, v⟩, hst⟩
 simp only at hst
 have hi := hst.le
 have hm0 := hst.m0
 have hm1 := hst.m1
 have hv0 := hst.v0
 have hv1 := hst.v1
 refine R0 ?_
 refine aB fun K hK => ?_
 refine aH (b := decide ((i : Int) < l.length)) rfl (fun hb => ?_) (fun hb => ?_)
 ·
  have hlt : i < l.length := by simpa using hb
  clear hb
  refine aJ ?_
  refine T0 (hK _ _ _ ?_)
  clear hK K
  refine aB fun K hK => ?_
  refine aK ?_
  refine aB fun K hK => Rg ?_
  have F := aI @Int.natCast_nonneg (aI @Int.ofNat_lt (aI hlt (nM hlt)))
  iterate 4 refine SF ?_
  refine T2 (hK _ _ _ ?_)
  clear hK K
  refine aB fun K hK => ?_
  refine aB fun K hK => Rg ?_
  iterate 3 refine S0 ?_
  refine aD 22 rfl (fun h7_22 => ?_) (fun h7_22 => ?_)
  ·
   have F := h7_22
   iterate 4 refine SF ?_
   refine T2 (hK _ _ _ ?_)
   clear hK K
   refine CT rfl ?_
   refine R0 ?_
   refine aF (RT Tryz.results13 ?_)
   exact aG [] (.bool false) rfl (by rw [hst.stop hlt (.inl (by simpa using h7_22))])
  have F := h7_22
  refine SF ?_
  refine aU (g := some (23, false)) rfl rfl fun K' hK' => T6 ?_
  refine C1 (bL6 l[i] (hn _ (List.getElem_mem hlt))) ?_
  rintro u rfl
  refine AX (hK' _ _ ?_)
  clear hK' K'
  iterate 2 refine SF ?_
  refine aD 25 rfl (fun h7_25 => ?_) (fun h7_25 => ?_)
  ·
   simp only [h7_25]
   refine T2 (hK _ _ _ ?_)
   clear hK K
   refine CF rfl ?_
   refine aJ ?_
   refine T0 (hK _ _ _ ?_)
   clear hK K
   have hnb : bT l[i] = true := by simpa using h7_25
   have hm : m ≠ 0 := by simpa using h7_22
   obtain ⟨c1, c2, c3, c4⟩ := cI hnb
   have hnx := hst.next hlt hm hnb
   clear h7_22 h7_25
   refine aB fun K hK => Rg ?_
   iterate 6 refine S0 ?_ (e := fun _ h_ => by simp only [sH, ↓sP, sA, tyS, simprocAttr, bN (l[i].c - 1) (by omega), bN (m + (l[i].c - 1)) (by omega)]; exact AX h_)
   refine T2 (hK _ _ _ ?_)
   clear hK K
   refine R0 ?_
   refine aH (b := _) rfl (fun hb => ?_) (fun hb => ?_)
   ·
    refine aL (by kernel_rfl) ?_
    simp only [↓sP, sA, tyS, simprocAttr, bN (v + 1) (by omega)]
    refine AX (hK _ _ _ ?_)
    clear hK K
    refine aL (by kernel_rfl) ?_
    simp only [↓sP, sA, tyS, simprocAttr, bN ((i : Int) + 1) (by omega)]
    rw [if_pos (by simpa using hb)] at hnx
    refine ⟨⟨(i + 1, _, _), hnx⟩, fF, ?_⟩
    show l.length - (i + 1) < l.length - i
    omega
   refine aJ ?_
   refine T0 (hK _ _ _ ?_)
   clear hK K
   refine aL (by kernel_rfl) ?_
   simp only [↓sP, sA, tyS, simprocAttr, bN ((i : Int) + 1) (by omega)]
   rw [if_neg (by simpa using hb)] at hnx
   refine ⟨⟨(i + 1, _, _), hnx⟩, fF, ?_⟩
   show l.length - (i + 1) < l.length - i
   omega
  simp only [h7_25]
  refine T2 (hK _ _ _ ?_)
  clear hK K
  refine CT rfl ?_
  refine R0 ?_
  refine aF (RT Tryz.results13 ?_)
  exact aG [] (.bool false) rfl (by rw [hst.stop hlt (.inr (by simpa using h7_25))])
 refine aZ (T3 ?_)
 clear hK K
 refine AX (hK _ _ _ ?_)
 clear hK K
 have hei : i = l.length := by simp only [decide_eq_false_iff_not] at hb; omega
 subst hei
 have hf := hst.fin hl1 hl2
 clear hb
 refine aB fun K hK => Rg ?_
 iterate 3 refine S0 ?_
 refine aD 40 rfl (fun h13_40 => ?_) (fun h13_40 => ?_)
 ·
  have F := h13_40
  iterate 4 refine SF ?_
  refine T2 (hK _ _ _ ?_)
  clear hK K
  refine aF (RT Tryz.results13 ?_)
  exact aG [] (.bool _) rfl (by rw [hf, h13_40, Bool.true_and])
 have F := h13_40
 iterate 4 refine SF ?_
 refine T2 (hK _ _ _ ?_)
 clear hK K
 refine aF (RT Tryz.results13 ?_)
 exact aG [] (.bool false) rfl (by rw [hf, h13_40, Bool.false_and])

end Go.Proofs.YtlldglbooaefhaaGreatDoor

namespace Go.Proofs.YtlldglbooaefhaaGreatDoor
open Go Go.Hl Go.Pl
set_option maxRecDepth 10000
set_option maxHeartbeats 16000000

theorem qU (l : List Nd) (hn : ∀ n ∈ l, n.q.t.length < 2 ^ 63) : bQ Tryz.prog 14 [.slc (l.map Nd.cv)] (fun v => v = .bool (cP l)) := by
 refine FW Tryz.func14 ?_
 refine R0 ?_
 refine aB fun K hK => ?_
 refine aB fun K hK => Rg ?_
 iterate 4 refine S0 ?_
 refine aD 8 rfl (fun h1_8 => ?_) (fun h1_8 => ?_)
 ·
  have F := h1_8
  iterate 4 refine SF ?_
  refine T2 (hK _ _ _ ?_)
  clear hK K
  refine CT rfl ?_
  refine R0 ?_
  refine aF (RT Tryz.results14 ?_)
  exact aG [] (.bool false) rfl (by rw [kG (.inl (by simp only [decide_eq_true_eq] at h1_8; omega))])
 have F := h1_8
 iterate 4 refine SF ?_
 refine aD 12 rfl (fun h1_12 => ?_) (fun h1_12 => ?_)
 ·
  simp only [h1_12]
  refine T2 (hK _ _ _ ?_)
  clear hK K
  refine CT rfl ?_
  refine R0 ?_
  refine aF (RT Tryz.results14 ?_)
  exact aG [] (.bool false) rfl (by rw [kG (.inr (by simp only [decide_eq_true_eq] at h1_12; omega))])
 simp only [h1_12]
 refine T2 (hK _ _ _ ?_)
 clear hK K
 refine CF rfl ?_
 refine aJ ?_
 refine T0 (hK _ _ _ ?_)
 clear hK K
 have hl1 : 1 ≤ l.length := by simp only [decide_eq_false_iff_not] at h1_8; omega
 have hl2 : l.length ≤ 60 := by simp only [decide_eq_false_iff_not] at h1_12; omega
 clear h1_8 h1_12
 refine R0 ?_
 refine aB fun K hK => ?_
 refine R0 ?_
 refine aK ?_
 refine bE (α := {y : Nat × Int × Int // ScSt l y.1 y.2.1 y.2.2}) (fun y => (fin [(0, .c (.slc (l.map Nd.cv))), (3, .c (.int .i64 y.1.2.1)), (4, .c (.int .i64 y.1.2.2)), (5, .c (.int .i64 y.1.1))], fob [])) 200 (fun y => l.length - y.1.1) ⟨(0, 1, 0), ScSt.init l⟩ (fF) ?_
 rintro ⟨⟨i, m, v⟩, hst⟩
 simp only at hst
 have hi := hst.le
 have hm0 := hst.m0
 have hm1 := hst.m1
 have hv0 := hst.v0
 have hv1 := hst.v1
 refine aB fun K hK => ?_
 refine aB fun K hK => Rg ?_
 iterate 4 refine S0 ?_
 refine T2 (hK _ _ _ ?_)
 clear hK K
 refine aH (b := decide ((i : Int) < l.length)) rfl (fun hb => ?_) (fun hb => ?_)
 ·
  have hlt : i < l.length := by simpa using hb
  clear hb
  refine aJ ?_
  refine T0 (hK _ _ _ ?_)
  clear hK K
  refine aB fun K hK => ?_
  refine aK ?_
  refine aB fun K hK => ?_
  refine aB fun K hK => Rg ?_
  have F := aI @Int.natCast_nonneg (aI @Int.ofNat_lt (aI hlt (nM hlt)))
  iterate 3 refine SF ?_
  refine aD 21 rfl (fun h7_21 => ?_) (fun h7_21 => ?_)
  ·
   have F := aI @Int.natCast_nonneg (aI @Int.ofNat_lt (aI hlt (aI (nM hlt) h7_21)))
   iterate 15 refine SF ?_
   refine T2 (hK _ _ _ ?_)
   clear hK K
   refine CT rfl ?_
   refine R0 ?_
   refine aF (RT Tryz.results14 ?_)
   exact aG [] (.bool false) rfl (by rw [hst.stop hlt (.inl (by simpa using h7_21))])
  have F := aI @Int.natCast_nonneg (aI @Int.ofNat_lt (aI hlt (aI (nM hlt) h7_21)))
  iterate 4 refine SF ?_
  refine aU (g := some (22, false)) rfl rfl fun K' hK' => T6 ?_
  refine C1 (bL7 l[i] (hn _ (List.getElem_mem hlt))) ?_
  rintro u rfl
  refine AX (hK' _ _ ?_)
  clear hK' K'
  iterate 3 refine SF ?_
  refine aD 27 rfl (fun h7_27 => ?_) (fun h7_27 => ?_)
  ·
   have F := aI @Int.natCast_nonneg (aI @Int.ofNat_lt (aI hlt (aI (nM hlt) (aI h7_21 h7_27))))
   iterate 7 refine SF ?_
   refine aD 36 rfl (fun h7_36 => ?_) (fun h7_36 => ?_)
   ·
    simp only [h7_36]
    refine T2 (hK _ _ _ ?_)
    clear hK K
    refine CT rfl ?_
    refine R0 ?_
    refine aF (RT Tryz.results14 ?_)
    exact aG [] (.bool false) rfl (by rw [hst.stop hlt (.inr (by rw [aB8, h7_27, h7_36]; rfl))])
   simp only [h7_36]
   refine T2 (hK _ _ _ ?_)
   clear hK K
   refine CF rfl ?_
   refine aJ ?_
   refine T0 (hK _ _ _ ?_)
   clear hK K
   have hnb : bT l[i] = true := by rw [aB8, h7_27, h7_36]; rfl
   have hm : m ≠ 0 := by simpa using h7_21
   obtain ⟨c1, c2, c3, c4⟩ := cI hnb
   have hnx := hst.next hlt hm hnb
   clear h7_21 h7_27 h7_36
   refine aB fun K hK => Rg ?_
   iterate 9 refine S0 ?_ (e := fun _ h_ => by simp only [sH, ↓sP, sA, tyS, simprocAttr, Int.natCast_nonneg, Int.ofNat_lt, hlt, bB hlt, bN (l[i].c - 1) (by omega), bN (m + (l[i].c - 1)) (by omega)]; exact AX h_)
   refine T2 (hK _ _ _ ?_)
   clear hK K
   refine aB fun K hK => Rg ?_
   have F := aI @Int.natCast_nonneg (aI @Int.ofNat_lt (aI hlt (nM hlt)))
   iterate 6 refine SF ?_
   refine T2 (hK _ _ _ ?_)
   clear hK K
   refine aH (b := _) rfl (fun hb => ?_) (fun hb => ?_)
   ·
    refine aL (by kernel_rfl) ?_
    simp only [↓sP, sA, tyS, simprocAttr, bN (v + 1) (by omega)]
    refine AX (hK _ _ _ ?_)
    clear hK K
    refine aL (by kernel_rfl) ?_
    simp only [↓sP, sA, tyS, simprocAttr, bN ((i : Int) + 1) (by omega)]
    rw [if_pos (by simpa using hb)] at hnx
    refine ⟨⟨(i + 1, _, _), hnx⟩, fF, ?_⟩
    show l.length - (i + 1) < l.length - i
    omega
   refine aJ ?_
   refine T0 (hK _ _ _ ?_)
   clear hK K
   refine aL (by kernel_rfl) ?_
   simp only [↓sP, sA, tyS, simprocAttr, bN ((i : Int) + 1) (by omega)]
   rw [if_neg (by simpa using hb)] at hnx
   refine ⟨⟨(i + 1, _, _), hnx⟩, fF, ?_⟩
   show l.length - (i + 1) < l.length - i
   omega
  have F := aI @Int.natCast_nonneg (aI @Int.ofNat_lt (aI hlt (aI (nM hlt) (aI h7_21 h7_27))))
  iterate 7 refine SF ?_
  refine T2 (hK _ _ _ ?_)
  clear hK K
  refine CT rfl ?_
  refine R0 ?_
  refine aF (RT Tryz.results14 ?_)
  exact aG [] (.bool false) rfl (by rw [hst.stop hlt (.inr (by rw [aB8, h7_27]; rfl))])
 refine aZ (T3 ?_)
 clear hK K
 refine AX (hK _ _ _ ?_)
 clear hK K
 have hei : i = l.length := by simp only [decide_eq_false_iff_not] at hb; omega
 subst hei
 have hf := hst.fin hl1 hl2
 clear hb
 refine aB fun K hK => Rg ?_
 iterate 3 refine S0 ?_
 refine aD 55 rfl (fun h12_55 => ?_) (fun h12_55 => ?_)
 ·
  have F := h12_55
  iterate 4 refine SF ?_
  refine T2 (hK _ _ _ ?_)
  clear hK K
  refine aF (RT Tryz.results14 ?_)
  exact aG [] (.bool _) rfl (by rw [hf, h12_55, Bool.true_and])
 have F := h12_55
 iterate 4 refine SF ?_
 refine T2 (hK _ _ _ ?_)
 clear hK K
 refine aF (RT Tryz.results14 ?_)
 exact aG [] (.bool false) rfl (by rw [hf, h12_55, Bool.false_and])

end Go.Proofs.YtlldglbooaefhaaGreatDoor

namespace Go.Proofs.YtlldglbooaefhaaGreatDoor
open Go Go.Hl Go.Pl
set_option maxRecDepth 10000
set_option maxHeartbeats 16000000

def iC (n : Nat) : CV := .int .i64 n
theorem oD (l : List Nat) : CV.denilL (l.map iC) = l.map iC := bV (fun _ => rfl) l
theorem bL8 (l : List Nd) (ht : IsTree l) (i : Nat) (hi : i < l.length) : bQ Tryz.prog 44 [.slc (l.map Nd.cv), .int .i64 i] (fun v => v = .int .i64 (aft l i : Nat)) := by
 have hl := ht.len
 refine FW Tryz.func44 ?_
 refine R0 ?_
 refine aB fun K hK => ?_
 refine R0 ?_
 refine aK ?_
 refine bE (α := {y : Nat × Nat // AftSt l i y.1 y.2 ∧ y.1 ≤ 1 + 60 * y.2}) (fun y => (fin [(0, .c (.slc (l.map Nd.cv))), (1, .c (.int .i64 y.1.2)), (5, .c (.int .i64 y.1.1))], fob [])) 100 (fun y => l.length - y.1.2) ⟨(1, i), ⟨Nat.le_of_lt hi, rfl⟩, by omega⟩ (fF) ?_
 rintro ⟨⟨m, p⟩, hst, hm⟩
 simp only at hst hm
 have hp := hst.1
 refine aB fun K hK => ?_
 refine R0 ?_
 refine aH (b := decide ((0 : Int) < (m : Int))) rfl (fun hb => ?_) (fun hb => ?_)
 ·
  have hm1 : 0 < m := by simpa using hb
  have hpl := hst.lt ht hi hm1
  obtain ⟨c1, c2, _, _⟩ := cI (ht.node _ (List.getElem_mem hpl))
  obtain ⟨m', rfl⟩ : ∃ m', m = m' + 1 := ⟨m - 1, by omega⟩
  have hnx := hst.next hpl
  have hw1 : IntKind.i64.wrap (((m' + 1 : Nat) : Int) + (l[p].c - 1)) = ((m' + l[p].c.toNat : Nat) : Int) := by rw [bN _ (by omega)]; omega
  have hw2 : IntKind.i64.wrap ((p : Int) + 1) = ((p + 1 : Nat) : Int) := by rw [bN _ (by omega)]; rfl
  clear hb
  refine aJ ?_
  refine T0 (hK _ _ _ ?_)
  clear hK K
  refine aB fun K hK => ?_
  refine aK ?_
  refine Rg ?_
  iterate 9 refine S0 ?_ (e := fun _ h_ => by simp only [sH, ↓sP, sA, tyS, simprocAttr, Int.natCast_nonneg, Int.ofNat_lt, hpl, bB hpl, bN (l[p].c - 1) (by omega), hw1]; exact AX h_)
  refine T2 (hK _ _ _ ?_)
  clear hK K
  refine aL (by kernel_rfl) ?_
  refine TQ hw2 ?_
  refine ⟨⟨(m' + l[p].c.toNat, p + 1), hnx, by simp only; omega⟩, fF, ?_⟩
  show l.length - (p + 1) < l.length - p
  omega
 refine aZ (T3 ?_)
 clear hK K
 refine AX (hK _ _ _ ?_)
 clear hK K
 refine R0 ?_
 refine aF (RT Tryz.results44 ?_)
 have hm0 : m = 0 := by simpa using hb
 subst hm0
 exact aG [] (.int .i64 p) rfl (by rw [hst.fin])


theorem tK (l : List Nd) (hn : ∀ n ∈ l, n.q.t.length < 2 ^ 63) (i : Int) : bQ Tryz.prog 16 [.slc (l.map Nd.cv), .int .i64 i] (fun v => v = .slc ((lS l i).map iC)) := by
 refine FW Tryz.func16 ?_
 refine R0 ?_
 refine aB fun K hK => ?_
 refine aB fun K hK => Rg ?_
 refine S0 ?_
 refine HS rfl rfl fun K' hK' => T5 ?_
 refine C1 (qT l hn) ?_
 rintro u rfl
 refine AX (hK' _ _ ?_)
 clear hK' K'
 iterate 2 refine S0 ?_
 refine aD 8 rfl (fun h1_8 => ?_) (fun h1_8 => ?_)
 ·
  have F := h1_8
  iterate 4 refine SF ?_
  refine aD 12 rfl (fun h1_12 => ?_) (fun h1_12 => ?_)
  ·
   have F := aI h1_8 h1_12
   iterate 5 refine SF ?_
   refine T2 (hK _ _ _ ?_)
   clear hK K
   refine CT rfl ?_
   refine R0 ?_
   refine aF (RT Tryz.results16 ?_)
   exact aG [] (.slc []) rfl (by rw [gS (.inr (.inl (by simpa using h1_12)))]; rfl)
  have F := aI h1_8 h1_12
  iterate 5 refine SF ?_
  refine aD 18 rfl (fun h1_18 => ?_) (fun h1_18 => ?_)
  ·
   simp only [h1_18]
   refine T2 (hK _ _ _ ?_)
   clear hK K
   refine CT rfl ?_
   refine R0 ?_
   refine aF (RT Tryz.results16 ?_)
   exact aG [] (.slc []) rfl (by rw [gS (.inr (.inr (by simpa using h1_18)))]; rfl)
  simp only [h1_18]
  refine T2 (hK _ _ _ ?_)
  clear hK K
  refine CF rfl ?_
  refine aJ ?_
  refine T0 (hK _ _ _ ?_)
  clear hK K
  obtain ⟨j, rfl⟩ : ∃ j : Nat, i = j := ⟨i.toNat, by simp at h1_12; omega⟩
  have hj : j < l.length := by simp at h1_18; omega
  have ht := fH h1_8
  have hcv := sC h1_8 hj
  have hl := ht.len
  obtain ⟨c1, c2, _, _⟩ := cI (ht.node _ (List.getElem_mem hj))
  have hw2 : IntKind.i64.wrap ((j : Int) + 1) = ((j + 1 : Nat) : Int) := by rw [bN _ (by omega)]; rfl
  clear h1_8 h1_12 h1_18
  refine R0 ?_
  refine aB fun K hK => ?_
  have F := hw2
  refine RF ?_
  refine aK ?_
  refine oZ 5 0 3 1 rfl rfl rfl rfl ?_
  refine bE (α := {k : Nat // k ≤ l[j].c.toNat}) (fun k => (fin [(0, .c (.slc (l.map Nd.cv))), (1, .c (.int .i64 j)), (5, .own 72 k.1), (6, .c (.int .i64 (cJ l k.1 (j + 1) : Nat)))], fob [(72, .row 3 1 ((fZ l k.1 (j + 1)).map iC))])) 200 (fun k => l[j].c.toNat - k.1) ⟨0, by omega⟩ (aN (by omega) (by simp [bA, fin_at, finA_at, upd_at, HV.men, HV.menL, HV.norm, HV.toC, HV.toCL, fZ, cJ]) (by simp [aX, fob_at, upd_at, none0_at, bY, HO.men, HV.men, HV.menL, HV.norm, HV.toC, HV.toCL, fZ, cJ])) ?_
  rintro ⟨k, hk⟩
  have hkl := oC l k (j + 1)
  refine aB fun K hK => ?_
  refine aB fun K hK => Rg ?_
  have F := aI @Int.natCast_nonneg (aI @Int.ofNat_lt (aI hj (aI (nM hj) hkl)))
  iterate 8 refine SF ?_
  refine T2 (hK _ _ _ ?_)
  clear hK K
  refine aH (b := decide ((k : Int) < l[j].c)) rfl (fun hb => ?_) (fun hb => ?_)
  ·
   have hkc : k < l[j].c.toNat := by simp only [decide_eq_true_eq] at hb; omega
   have hkp := iD ht hj hkc
   have e : (fZ l (k + 1) (j + 1)).map iC = (fZ l k (j + 1)).map iC ++ [CV.int .i64 (cJ l k (j + 1) : Nat)] := by rw [pC, List.map_append]; rfl
   refine aJ ?_
   refine T0 (hK _ _ _ ?_)
   clear hK K
   refine aB fun K hK => ?_
   refine aK ?_
   refine Rg ?_
   have F := hkl
   iterate 5 refine SF ?_
   refine T2 (hK _ _ _ ?_)
   clear hK K
   refine Rg ?_
   iterate 2 refine S0 ?_
   refine HS rfl rfl fun K' hK' => T5 ?_
   refine C2 (bL8 l ht _ hkp) ?_
   rintro u rfl
   refine AX (hK' _ _ ?_)
   clear hK' K'
   refine S0 ?_
   refine T4 ?_
   refine ⟨⟨k + 1, hkc⟩, aN (by omega) (by simp [bA, fin_at, finA_at, upd_at, HV.men, HV.menL, HV.norm, HV.toC, HV.toCL, e, hkl, cK]) (by simp [aX, fob_at, upd_at, none0_at, bY, HO.men, HV.men, HV.menL, HV.norm, HV.toC, HV.toCL, e, hkl, cK]), ?_⟩
   show l[j].c.toNat - (k + 1) < l[j].c.toNat - k
   omega
  refine aZ (T3 ?_)
  clear hK K
  refine AX (hK _ _ _ ?_)
  clear hK K
  refine R0 ?_
  refine aF (RT Tryz.results16 ?_)
  have hkc : k = l[j].c.toNat := by simp only [decide_eq_false_iff_not] at hb; omega
  subst hkc
  exact aG [72] (.slc ((fZ l l[j].c.toNat (j + 1)).map iC)) (by simp [HV.close, fob_at, hkl, HV.norm, HV.toC, oD, CV.denil]) (by rw [hcv])
 have F := h1_8
 iterate 9 refine SF ?_
 refine T2 (hK _ _ _ ?_)
 clear hK K
 refine CT rfl ?_
 refine R0 ?_
 refine aF (RT Tryz.results16 ?_)
 exact aG [] (.slc []) rfl (by rw [gS (.inl h1_8)]; rfl)


theorem sD (l : List Nd) (hn : ∀ n ∈ l, n.q.t.length < 2 ^ 63) : bQ Tryz.prog 18 [.slc (l.map Nd.cv)] (fun v => v = .slc ((gJ l).map iC)) := by
 refine FW Tryz.func18 ?_
 refine R0 ?_
 refine aB fun K hK => ?_
 refine aB fun K hK => Rg ?_
 refine S0 ?_
 refine HS rfl rfl fun K' hK' => T5 ?_
 refine C1 (qT l hn) ?_
 rintro u rfl
 refine AX (hK' _ _ ?_)
 clear hK' K'
 refine S0 ?_
 refine T2 (hK _ _ _ ?_)
 clear hK K
 refine aH (b := !cP l) rfl (fun hb => ?_) (fun hb => ?_)
 ·
  refine R0 ?_
  refine aF (RT Tryz.results18 ?_)
  exact aG [] (.slc []) rfl (by rw [kH (by simpa using hb)]; rfl)
 have h8 : cP l = true := by simpa using hb
 have ht := fH h8
 have hlv := jM h8
 have hl := ht.len
 clear hb
 refine aJ ?_
 refine T0 (hK _ _ _ ?_)
 clear hK K
 refine R0 ?_
 refine aB fun K hK => ?_
 refine R0 ?_
 refine aK ?_
 refine oZ 3 0 3 1 rfl rfl rfl rfl ?_
 refine bE (α := {i : Nat // i ≤ l.length}) (fun i => (fin [(3, .own 32 (eA 0 (l.take i.1)).length), (9, .c (.slc (l.map Nd.cv))), (10, .c (.int .i64 l.length)), (11, .c (.int .i64 i.1))], fob [(32, .row 3 1 ((eA 0 (l.take i.1)).map iC))])) 200 (fun i => l.length - i.1) ⟨0, by omega⟩ (aN (by omega) (by simp [bA, fin_at, finA_at, upd_at, HV.men, HV.menL, HV.norm, HV.toC, HV.toCL, eA]) (by simp [aX, fob_at, upd_at, none0_at, bY, HO.men, HV.men, HV.menL, HV.norm, HV.toC, HV.toCL, eA])) ?_
 rintro ⟨i, hi⟩
 have hfl : (eA 0 (l.take i)).length ≤ i := by rw [gP]; have := bF1 (l.take i); simp at this; omega
 refine R0 ?_
 refine aB fun K hK => ?_
 refine aH (b := decide ((i : Int) < l.length)) rfl (fun hb => ?_) (fun hb => ?_)
 ·
  have hlt : i < l.length := by simpa using hb
  have e := vU hlt
  clear hb
  refine aJ ?_
  refine T0 (hK _ _ _ ?_)
  clear hK K
  refine aB fun K hK => ?_
  refine aK ?_
  refine aB fun K hK => Rg ?_
  have F := aI @Int.natCast_nonneg (aI @Int.ofNat_lt (aI hlt (nM hlt)))
  iterate 6 refine SF ?_
  refine T2 (hK _ _ _ ?_)
  clear hK K
  refine R0 ?_
  refine aH (b := _) rfl (fun hb => ?_) (fun hb => ?_)
  ·
   rw [if_pos (by simpa using hb)] at e
   refine Rg ?_
   iterate 5 refine S0 ?_
   refine T2 (hK _ _ _ ?_)
   clear hK K
   refine aL (by kernel_rfl) ?_
   simp only [↓sP, sA, tyS, simprocAttr, bN ((i : Int) + 1) (by omega)]
   refine ⟨⟨i + 1, hlt⟩, aN (by omega) (by simp [bA, fin_at, finA_at, upd_at, HV.men, HV.menL, HV.norm, HV.toC, HV.toCL, e, iC]) (by simp [aX, fob_at, upd_at, none0_at, bY, HO.men, HV.men, HV.menL, HV.norm, HV.toC, HV.toCL, e, iC]), ?_⟩
   show l.length - (i + 1) < l.length - i
   omega
  rw [if_neg (by simpa using hb)] at e
  refine aJ ?_
  refine T0 (hK _ _ _ ?_)
  clear hK K
  refine aL (by kernel_rfl) ?_
  simp only [↓sP, sA, tyS, simprocAttr, bN ((i : Int) + 1) (by omega)]
  refine ⟨⟨i + 1, hlt⟩, aN (by omega) (by simp [bA, fin_at, finA_at, upd_at, HV.men, HV.menL, HV.norm, HV.toC, HV.toCL, e]) (by simp [aX, fob_at, upd_at, none0_at, bY, HO.men, HV.men, HV.menL, HV.norm, HV.toC, HV.toCL, e]), ?_⟩
  show l.length - (i + 1) < l.length - i
  omega
 refine aZ (T3 ?_)
 clear hK K
 refine AX (hK _ _ _ ?_)
 clear hK K
 refine R0 ?_
 refine aF (RT Tryz.results18 ?_)
 have hei : i = l.length := by simp only [decide_eq_false_iff_not] at hb; omega
 subst hei
 rw [List.take_length]
 exact aG [32] (.slc ((eA 0 l).map iC)) (by simp [HV.close, fob_at, HV.norm, HV.toC, oD, CV.denil]) (by rw [hlv])


theorem aK5 (a b : List Nat) (ha : a.length < 2 ^ 40) : bQ Tryz.prog 15 [.slc (a.map iC), .slc (b.map iC)] (fun v => v = .bool (a == b)) := by
 refine FW Tryz.func15 ?_
 refine R0 ?_
 refine aB fun K hK => ?_
 refine aB fun K hK => Rg ?_
 iterate 5 refine S0 ?_
 refine T2 (hK _ _ _ ?_)
 clear hK K
 refine aH (b := !((a.length : Int) == (b.length : Int))) rfl (fun hb => ?_) (fun hb => ?_)
 ·
  refine R0 ?_
  refine aF (RT Tryz.results15 ?_)
  have hne : a ≠ b := by rintro rfl; simp at hb
  exact aG [] (.bool false) rfl (by rw [beq_false_of_ne hne])
 have hlen0 : (a.length : Int) = b.length := by simpa using hb
 have hlen : a.length = b.length := by omega
 clear hb
 refine aJ ?_
 refine T0 (hK _ _ _ ?_)
 clear hK K
 refine aB fun K hK => ?_
 refine R0 ?_
 refine aK ?_
 refine bE (α := {i : Nat // i ≤ a.length ∧ a.take i = b.take i}) (fun i => (fin [(0, .c (.slc (a.map iC))), (1, .c (.slc (b.map iC))), (5, .c (.int .i64 i.1))], fob [])) 100 (fun i => a.length - i.1) ⟨0, by omega, by simp⟩ (fF) ?_
 rintro ⟨i, hi, hpre⟩
 refine aB fun K hK => ?_
 refine aB fun K hK => Rg ?_
 iterate 4 refine S0 ?_
 refine T2 (hK _ _ _ ?_)
 clear hK K
 refine aH (b := decide ((i : Int) < a.length)) rfl (fun hb => ?_) (fun hb => ?_)
 ·
  have hlt : i < a.length := by simpa using hb
  have hlt2 : i < b.length := by omega
  clear hb
  refine aJ ?_
  refine T0 (hK _ _ _ ?_)
  clear hK K
  refine aB fun K hK => ?_
  refine aK ?_
  refine aB fun K hK => QR ?_
  iterate 9 refine S0 ?_ (e := fun _ h_ => by simp only [sH, ↓sP, sA, tyS, simprocAttr, Int.natCast_nonneg, Int.ofNat_lt, hlt, bB hlt, hlt2, bB hlt2, iC]; exact AX h_)
  refine T2 (hK _ _ _ ?_)
  clear hK K
  refine aH (b := !((a[i] : Int) == (b[i] : Int))) rfl (fun hb => ?_) (fun hb => ?_)
  ·
   refine R0 ?_
   refine aF (RT Tryz.results15 ?_)
   have hne : a ≠ b := by rintro rfl; simp at hb
   exact aG [] (.bool false) rfl (by rw [beq_false_of_ne hne])
  refine aJ ?_
  refine T0 (hK _ _ _ ?_)
  clear hK K
  refine aL (by kernel_rfl) ?_
  simp only [↓sP, sA, tyS, simprocAttr, bN ((i : Int) + 1) (by omega)]
  have hab : a[i] = b[i] := by simp at hb; omega
  refine ⟨⟨i + 1, hlt, by rw [List.take_succ_eq_append_getElem hlt, List.take_succ_eq_append_getElem hlt2, hpre, hab]⟩, fF, ?_⟩
  show a.length - (i + 1) < a.length - i
  omega
 refine aZ (T3 ?_)
 clear hK K
 refine AX (hK _ _ _ ?_)
 clear hK K
 refine R0 ?_
 refine aF (RT Tryz.results15 ?_)
 have hei : i = a.length := by simp only [decide_eq_false_iff_not] at hb; omega
 subst hei
 have hab : a = b := by rw [List.take_length] at hpre; rw [hpre, hlen, List.take_length]
 exact aG [] (.bool true) rfl (by rw [hab, beq_self_eq_true])

end Go.Proofs.YtlldglbooaefhaaGreatDoor

namespace Go.Proofs.YtlldglbooaefhaaGreatDoor
open Go Go.Hl Go.Pl
set_option maxRecDepth 10000
set_option maxHeartbeats 16000000

theorem aK6 (l : List Nd) (ht : IsTree l) (i : Nat) (hi : i < l.length) (ih : ∀ j, i < j → j < l.length → bQ Tryz.prog 45 [.slc (l.map Nd.cv), .int .i64 j] (fun v => v = .int .i64 (aft l j : Nat))) :
  bQ Tryz.prog 45 [.slc (l.map Nd.cv), .int .i64 i] (fun v => v = .int .i64 (aft l i : Nat)) := by
 have hl := ht.len
 obtain ⟨c1, c2, _, _⟩ := cI (ht.node _ (List.getElem_mem hi))
 have hw2 : IntKind.i64.wrap ((i : Int) + 1) = ((i + 1 : Nat) : Int) := by rw [bN _ (by omega)]; rfl
 have hc : l[i].c = ((l[i].c.toNat : Nat) : Int) := by omega
 refine FW Tryz.func45 ?_
 refine R0 ?_
 refine aB fun K hK => Rg ?_
 have F := aI @Int.natCast_nonneg (aI @Int.ofNat_lt (aI hi (nM hi)))
 iterate 6 refine SF ?_
 refine T2 (hK _ _ _ ?_)
 clear hK K
 have F := hw2
 refine RF ?_
 refine aB fun K hK => ?_
 refine aK ?_
 refine bE (α := {y : Nat × Nat // AftSt l i y.1 y.2 ∧ y.1 ≤ 60 ∧ i < y.2}) (fun y => (fin [(0, .c (.slc (l.map Nd.cv))), (1, .c (.int .i64 y.1.2)), (5, .c (.int .i64 y.1.1))], fob [])) 100 (fun y => y.1.1) ⟨(0 + l[i].c.toNat, i + 1), AftSt.next (m := 0) ⟨Nat.le_of_lt hi, rfl⟩ hi, by simp only; omega, by simp only; omega⟩ (aN (by omega) (by simp [bA, fin_at, finA_at, upd_at, HV.men, HV.menL, HV.norm, HV.toC, HV.toCL]; omega) (by simp [aX, fob_at, upd_at, none0_at, bY, HO.men, HV.men, HV.menL, HV.norm, HV.toC, HV.toCL])) ?_
 rintro ⟨⟨m, p⟩, hst, hm, hip⟩
 simp only at hst hm hip
 have hp := hst.1
 refine aB fun K hK => ?_
 refine R0 ?_
 refine aH (b := decide ((0 : Int) < (m : Int))) rfl (fun hb => ?_) (fun hb => ?_)
 ·
  have hm1 : 0 < m := by simpa using hb
  have hpl := hst.lt ht hi hm1
  obtain ⟨m', rfl⟩ : ∃ m', m = m' + 1 := ⟨m - 1, by omega⟩
  obtain ⟨a1, a2, a3⟩ := iN ht hpl
  have hw1 : IntKind.i64.wrap (((m' + 1 : Nat) : Int) - 1) = ((m' : Nat) : Int) := by rw [bN _ (by omega)]; omega
  clear hb
  refine aJ ?_
  refine T0 (hK _ _ _ ?_)
  clear hK K
  refine aB fun K hK => ?_
  refine aK ?_
  refine Rg ?_
  iterate 2 refine S0 ?_
  refine HS rfl rfl fun K' hK' => T5 ?_
  refine C2 (ih p hip hpl) ?_
  rintro u rfl
  refine AX (hK' _ _ ?_)
  clear hK' K'
  refine S0 ?_
  refine T2 (hK _ _ _ ?_)
  clear hK K
  refine aL (by kernel_rfl) ?_
  refine TQ hw1 ?_
  refine ⟨⟨(m', aft l p), ⟨a2, aZ6 hst.2 a3⟩, by simp only; omega, by simp only; omega⟩, fF, ?_⟩
  show m' < m' + 1
  omega
 refine aZ (T3 ?_)
 clear hK K
 refine AX (hK _ _ _ ?_)
 clear hK K
 refine R0 ?_
 refine aF (RT Tryz.results45 ?_)
 have hm0 : m = 0 := by simpa using hb
 subst hm0
 exact aG [] (.int .i64 p) rfl (by rw [hst.fin])

theorem oE (l : List Nd) (ht : IsTree l) : ∀ (f i : Nat), i < l.length → l.length - i ≤ f → bQ Tryz.prog 45 [.slc (l.map Nd.cv), .int .i64 i] (fun v => v = .int .i64 (aft l i : Nat))
 | 0, i, h1, h2 => by omega
 | f + 1, i, h1, h2 => aK6 l ht i h1 fun j h3 h4 => oE l ht f j h4 (by omega)

theorem aC1 (l : List Nd) (hn : ∀ n ∈ l, n.q.t.length < 2 ^ 63) (i : Int) : bQ Tryz.prog 17 [.slc (l.map Nd.cv), .int .i64 i] (fun v => v = .slc ((lS l i).map iC)) := by
 refine FW Tryz.func17 ?_
 refine R0 ?_
 refine R0 ?_
 refine aB fun K hK => ?_
 refine aB fun K hK => Rg ?_
 refine S0 ?_
 refine HS rfl rfl fun K' hK' => T5 ?_
 refine C1 (qU l hn) ?_
 rintro u rfl
 refine AX (hK' _ _ ?_)
 clear hK' K'
 iterate 2 refine S0 ?_
 refine aD 9 rfl (fun h2_9 => ?_) (fun h2_9 => ?_)
 ·
  have F := h2_9
  iterate 4 refine SF ?_
  refine aD 13 rfl (fun h2_13 => ?_) (fun h2_13 => ?_)
  ·
   have F := aI h2_9 h2_13
   iterate 5 refine SF ?_
   refine T2 (hK _ _ _ ?_)
   clear hK K
   refine CT rfl ?_
   refine R0 ?_
   refine aF (RT Tryz.results17 ?_)
   exact aG [] (.slc []) rfl (by rw [gS (.inr (.inl (by simpa using h2_13)))]; rfl)
  have F := aI h2_9 h2_13
  iterate 5 refine SF ?_
  refine aD 19 rfl (fun h2_19 => ?_) (fun h2_19 => ?_)
  ·
   simp only [h2_19]
   refine T2 (hK _ _ _ ?_)
   clear hK K
   refine CT rfl ?_
   refine R0 ?_
   refine aF (RT Tryz.results17 ?_)
   exact aG [] (.slc []) rfl (by rw [gS (.inr (.inr (by simpa using h2_19)))]; rfl)
  simp only [h2_19]
  refine T2 (hK _ _ _ ?_)
  clear hK K
  refine CF rfl ?_
  refine aJ ?_
  refine T0 (hK _ _ _ ?_)
  clear hK K
  obtain ⟨j, rfl⟩ : ∃ j : Nat, i = j := ⟨i.toNat, by simp at h2_13; omega⟩
  have hj : j < l.length := by simp at h2_19; omega
  have ht := fH h2_9
  have hcv := sC h2_9 hj
  have hl := ht.len
  obtain ⟨c1, c2, _, _⟩ := cI (ht.node _ (List.getElem_mem hj))
  have hw2 : IntKind.i64.wrap ((j : Int) + 1) = ((j + 1 : Nat) : Int) := by rw [bN _ (by omega)]; rfl
  clear h2_9 h2_13 h2_19
  have F := hw2
  refine RF ?_
  refine aB fun K hK => ?_
  refine R0 ?_
  refine aK ?_
  refine oZ 5 0 3 1 rfl rfl rfl rfl ?_
  refine bE (α := {k : Nat // k ≤ l[j].c.toNat}) (fun k => (fin [(0, .c (.slc (l.map Nd.cv))), (1, .c (.int .i64 j)), (5, .own 76 k.1), (6, .c (.int .i64 (cJ l k.1 (j + 1) : Nat))), (7, .c (.int .i64 k.1))], fob [(76, .row 3 1 ((fZ l k.1 (j + 1)).map iC))])) 200 (fun k => l[j].c.toNat - k.1) ⟨0, by omega⟩ (aN (by omega) (by simp [bA, fin_at, finA_at, upd_at, HV.men, HV.menL, HV.norm, HV.toC, HV.toCL, fZ, cJ]) (by simp [aX, fob_at, upd_at, none0_at, bY, HO.men, HV.men, HV.menL, HV.norm, HV.toC, HV.toCL, fZ, cJ])) ?_
  rintro ⟨k, hk⟩
  have hkl := oC l k (j + 1)
  refine aB fun K hK => ?_
  refine aB fun K hK => Rg ?_
  have F := aI @Int.natCast_nonneg (aI @Int.ofNat_lt (aI hj (nM hj)))
  iterate 7 refine SF ?_
  refine T2 (hK _ _ _ ?_)
  clear hK K
  refine aH (b := decide ((k : Int) < l[j].c)) rfl (fun hb => ?_) (fun hb => ?_)
  ·
   have hkc : k < l[j].c.toNat := by simp only [decide_eq_true_eq] at hb; omega
   have hkp := iD ht hj hkc
   have e : (fZ l (k + 1) (j + 1)).map iC = (fZ l k (j + 1)).map iC ++ [CV.int .i64 (cJ l k (j + 1) : Nat)] := by rw [pC, List.map_append]; rfl
   refine aJ ?_
   refine T0 (hK _ _ _ ?_)
   clear hK K
   refine aB fun K hK => ?_
   refine aK ?_
   refine aB fun K hK => Rg ?_
   have F := hkl
   iterate 5 refine SF ?_
   refine T2 (hK _ _ _ ?_)
   clear hK K
   refine Rg ?_
   iterate 2 refine S0 ?_
   refine HS rfl rfl fun K' hK' => T5 ?_
   refine C2 (oE l ht _ _ hkp (Nat.le_refl _)) ?_
   rintro u rfl
   refine AX (hK' _ _ ?_)
   clear hK' K'
   refine S0 ?_
   refine T2 (hK _ _ _ ?_)
   clear hK K
   refine aL (by kernel_rfl) ?_
   simp only [↓sP, sA, tyS, simprocAttr, bN ((k : Int) + 1) (by omega)]
   refine ⟨⟨k + 1, hkc⟩, aN (by omega) (by simp [bA, fin_at, finA_at, upd_at, HV.men, HV.menL, HV.norm, HV.toC, HV.toCL, e, hkl, cK]) (by simp [aX, fob_at, upd_at, none0_at, bY, HO.men, HV.men, HV.menL, HV.norm, HV.toC, HV.toCL, e, hkl, cK]), ?_⟩
   show l[j].c.toNat - (k + 1) < l[j].c.toNat - k
   omega
  refine aZ (T3 ?_)
  clear hK K
  refine AX (hK _ _ _ ?_)
  clear hK K
  refine R0 ?_
  refine aF (RT Tryz.results17 ?_)
  have hkc : k = l[j].c.toNat := by simp only [decide_eq_false_iff_not] at hb; omega
  subst hkc
  exact aG [76] (.slc ((fZ l l[j].c.toNat (j + 1)).map iC)) (by simp [HV.close, fob_at, hkl, HV.norm, HV.toC, oD, CV.denil]) (by rw [hcv])
 have F := h2_9
 iterate 9 refine SF ?_
 refine T2 (hK _ _ _ ?_)
 clear hK K
 refine CT rfl ?_
 refine R0 ?_
 refine aF (RT Tryz.results17 ?_)
 exact aG [] (.slc []) rfl (by rw [gS (.inl h2_9)]; rfl)


theorem aQ3 (l : List Nd) (hn : ∀ n ∈ l, n.q.t.length < 2 ^ 63) (hl : l.length < 2 ^ 40) : bQ Tryz.prog 19 [.slc (l.map Nd.cv)] (fun v => v = .slc ((gJ l).map iC)) := by
 refine FW Tryz.func19 ?_
 refine R0 ?_
 refine R0 ?_
 refine aB fun K hK => ?_
 refine R0 ?_
 refine aK ?_
 refine oZ 3 0 3 1 rfl rfl rfl rfl ?_
 refine bE (α := {i : Nat // i ≤ l.length ∧ (0 < i → cP l = true)}) (fun i => (fin [(0, .c (.slc (l.map Nd.cv))), (3, .own 12 (eA 0 (l.take i.1)).length), (4, .c (.int .i64 i.1))], fob [(12, .row 3 1 ((eA 0 (l.take i.1)).map iC))])) 200 (fun i => l.length - i.1) ⟨0, by omega, by omega⟩ (aN (by omega) (by simp [bA, fin_at, finA_at, upd_at, HV.men, HV.menL, HV.norm, HV.toC, HV.toCL, eA]) (by simp [aX, fob_at, upd_at, none0_at, bY, HO.men, HV.men, HV.menL, HV.norm, HV.toC, HV.toCL, eA])) ?_
 rintro ⟨i, hi, ht0⟩
 have hfl : (eA 0 (l.take i)).length ≤ i := by rw [gP]; have := bF1 (l.take i); simp at this; omega
 refine aB fun K hK => ?_
 refine aB fun K hK => Rg ?_
 iterate 5 refine S0 ?_
 refine aD 8 rfl (fun h3_8 => ?_) (fun h3_8 => ?_)
 ·
  have F := h3_8
  refine SF ?_
  refine aU (g := some (9, true)) rfl rfl fun K' hK' => T6 ?_
  refine C1 (qU l hn) ?_
  rintro u rfl
  refine AX (hK' _ _ ?_)
  clear hK' K'
  refine SF ?_
  refine aD 11 rfl (fun h3_11 => ?_) (fun h3_11 => ?_)
  ·
   simp only [h3_11]
   refine T2 (hK _ _ _ ?_)
   clear hK K
   refine CT rfl ?_
   refine aJ ?_
   refine T0 (hK _ _ _ ?_)
   clear hK K
   refine aB fun K hK => ?_
   refine aK ?_
   have hlt : i < l.length := by simpa using h3_8
   have h8 := h3_11
   have e := vU hlt
   clear h3_8 h3_11
   refine aB fun K hK => Rg ?_
   have F := aI @Int.natCast_nonneg (aI @Int.ofNat_lt (aI hlt (nM hlt)))
   iterate 6 refine SF ?_
   refine T2 (hK _ _ _ ?_)
   clear hK K
   refine aH (b := _) rfl (fun hb => ?_) (fun hb => ?_)
   ·
    rw [if_pos (by simpa using hb)] at e
    refine Rg ?_
    iterate 5 refine S0 ?_
    refine T2 (hK _ _ _ ?_)
    clear hK K
    refine aL (by kernel_rfl) ?_
    simp only [↓sP, sA, tyS, simprocAttr, bN ((i : Int) + 1) (by omega)]
    refine ⟨⟨i + 1, hlt, fun _ => h8⟩, aN (by omega) (by simp [bA, fin_at, finA_at, upd_at, HV.men, HV.menL, HV.norm, HV.toC, HV.toCL, e, iC]) (by simp [aX, fob_at, upd_at, none0_at, bY, HO.men, HV.men, HV.menL, HV.norm, HV.toC, HV.toCL, e, iC]), ?_⟩
    show l.length - (i + 1) < l.length - i
    omega
   rw [if_neg (by simpa using hb)] at e
   refine aJ ?_
   refine T0 (hK _ _ _ ?_)
   clear hK K
   refine aL (by kernel_rfl) ?_
   simp only [↓sP, sA, tyS, simprocAttr, bN ((i : Int) + 1) (by omega)]
   refine ⟨⟨i + 1, hlt, fun _ => h8⟩, aN (by omega) (by simp [bA, fin_at, finA_at, upd_at, HV.men, HV.menL, HV.norm, HV.toC, HV.toCL, e]) (by simp [aX, fob_at, upd_at, none0_at, bY, HO.men, HV.men, HV.menL, HV.norm, HV.toC, HV.toCL, e]), ?_⟩
   show l.length - (i + 1) < l.length - i
   omega
  simp only [h3_11]
  refine T2 (hK _ _ _ ?_)
  clear hK K
  refine CF rfl ?_
  refine aZ (T3 ?_)
  clear hK K
  refine AX (hK _ _ _ ?_)
  clear hK K
  refine R0 ?_
  refine aF (RT Tryz.results19 ?_)
  have hi0 : i = 0 := by
   rcases Nat.eq_zero_or_pos i with h | h
   ·
    exact h
   rw [ht0 h] at h3_11; cases h3_11
  subst hi0
  exact aG [12] (.slc []) (by simp [HV.close, fob_at, HV.norm, HV.toC, CV.denil, eA, CV.denilL]) (by rw [kH h3_11]; rfl)
 have F := h3_8
 iterate 3 refine SF ?_
 refine T2 (hK _ _ _ ?_)
 clear hK K
 refine CF rfl ?_
 refine aZ (T3 ?_)
 clear hK K
 refine AX (hK _ _ _ ?_)
 clear hK K
 refine R0 ?_
 refine aF (RT Tryz.results19 ?_)
 have hei : i = l.length := by simp only [decide_eq_false_iff_not] at h3_8; omega
 subst hei
 rw [List.take_length]
 refine aG [12] (.slc ((eA 0 l).map iC)) (by simp [HV.close, fob_at, HV.norm, HV.toC, oD, CV.denil]) ?_
 cases hl0 : l with
 | nil => rfl
 | cons n l' => rw [← hl0, jM (ht0 (by rw [hl0]; simp))]

end Go.Proofs.YtlldglbooaefhaaGreatDoor
