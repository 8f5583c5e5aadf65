/- Part of a proof: walks of functions of the program, by contracts, and the rules they use. By an AI agent. -/
import Derived.Test.YtlldglbooaefhaaGreatDoorHzU1
import Derived.Test.YtlldglbooaefhaaGreatDoorPl28k
import Derived.Test.YtlldglbooaefhaaGreatDoorHzSb
import Derived.Test.YtlldglbooaefhaaGreatDoorPl02e
import Derived.Test.YtlldglbooaefhaaGreatDoorHlTlaw
import Derived.Test.YtlldglbooaefhaaGreatDoorRows
import Derived.Test.YtlldglbooaefhaaGreatDoorPl11v
import Derived.Test.YtlldglbooaefhaaGreatDoorHlIt
set_option linter.unusedSimpArgs false
set_option linter.unusedVariables false
set_option linter.defProp false
namespace Go.Proofs.YtlldglbooaefhaaGreatDoor
open Go Go.Hl Go.Pl
set_option maxRecDepth 10000
set_option maxHeartbeats 16000000

theorem co3 : Tryz.prog.cellsOf 3 = 1 := by kernel_rfl
theorem co2 : Tryz.prog.cellsOf 2 = 1 := by kernel_rfl
theorem co9 : Tryz.prog.cellsOf 9 = 1 := by kernel_rfl
theorem bW3 (n : Nat) (x : Rq) : CV.ofTy Tryz.prog (n + 2) 38 x.cv = true := by
 simp only [Rq.cv, CV.ofTyF, CV.ofTy, tyS, co2, co3, co9, CV.cells, beq_self_eq_true, Bool.and_true]
theorem aD0 (x y : Rq) (K : CV → Prop) : jL Tryz.prog .eql 38 (.c x.cv) (.c y.cv) K = K (.bool (fR x y)) := by
 have ha : aS5 Tryz.prog 38 = true := by kernel_rfl
 have h1 := bW3 6 x
 have h2 := bW3 6 y
 have e : CV.eqv (.agg [.int .i64 x.k, .int .i64 x.n, .int .i64 x.m, .str x.t]) (.agg [.int .i64 y.k, .int .i64 y.n, .int .i64 y.m, .str y.t]) = fR x y := by simp only [CV.eqv, CV.eqvL, fR, Bool.and_true]
 simp only [Rq.cv] at h1 h2 ⊢
 simp only [jL, ha, h1, h2, e, true_and]
theorem bM6 : CV.agg [.int .i64 0, .int .i64 0, .int .i64 0, .str []] = rq0.cv := rfl

theorem gP (n a b : Int) : bT Tryz.prog 57 [.int .i64 n, .int .i64 a, .int .i64 b] (fun v => v = .bool (inB n a b)) := by
 refine FW Tryz.func57 ?_
 refine R0 ?_
 refine aB fun K hK => Rg ?_
 iterate 4 refine S0 ?_
 refine aD 9 rfl (fun h1_9 => ?_) (fun h1_9 => ?_)
 ·
  have F := h1_9
  iterate 5 refine SF ?_
  refine T2 (hK _ _ _ ?_)
  clear hK K
  refine aE (RT Tryz.results57 ?_)
  exact aF [] (.bool _) rfl (by simp only [inB, h1_9, Bool.true_and, Bool.false_and])
 have F := h1_9
 iterate 5 refine SF ?_
 refine T2 (hK _ _ _ ?_)
 clear hK K
 refine aE (RT Tryz.results57 ?_)
 exact aF [] (.bool _) rfl (by simp only [inB, h1_9, Bool.true_and, Bool.false_and])

theorem aL5 (q : Rq) (hn : q.t.length < 2 ^ 63) : bT Tryz.prog 74 [q.cv] (fun v => v = .bool (dZ q)) := by
 refine FW Tryz.func74 ?_
 refine R0 ?_
 refine aB fun K hK => Rg ?_
 iterate 5 refine S0 ?_
 refine T2 (hK _ _ _ ?_)
 clear hK K
 refine R0 ?_
 refine aB fun K hK => ?_
 have key0 : ∀ (s : Bool) (u : Rq) fr ob nx, dZ q = (s && fR q u) → Fits 0 fr ob (fin [(1, .ptr 0 0), (3, .ptr 20 0), (4, .c (.bool s))]) (fob [(0, .box 38 (.c q.cv)), (20, .box 38 (.c u.cv))]) 1000 → K fr ob nx := by
  rintro s u fr ob nx hq hf
  refine hK _ _ _ (bM hf ?_)
  clear hf hK K
  refine aB fun K hK => Rg ?_
  have F := @aD0
  iterate 2 refine SF ?_
  refine aD 62 rfl (fun h18_62 => ?_) (fun h18_62 => ?_)
  ·
   have F := aI @aD0 h18_62
   iterate 5 refine SF ?_
   refine T2 (hK _ _ _ ?_)
   clear hK K
   refine aE (RT Tryz.results74 ?_)
   exact aF [] (.bool _) rfl (by rw [hq, h18_62, Bool.true_and])
  have F := aI @aD0 h18_62
  iterate 5 refine SF ?_
  refine T2 (hK _ _ _ ?_)
  clear hK K
  refine aE (RT Tryz.results74 ?_)
  exact aF [] (.bool false) rfl (by rw [hq, h18_62, Bool.false_and])
 refine R0 ?_
 refine aK ?_
 refine aB fun K hK => ?_
 have key : ∀ (b : Bool) fr ob nx, b = (q.k == 1 || (q.k == 3 || q.k == 5)) → Fits 0 fr ob (fin [(1, .ptr 0 0), (3, .ptr 20 0), (4, .c (.bool true)), (9, .c (.int .i64 q.k)), (10, .c (.bool b))]) (fob [(0, .box 38 (.c q.cv)), (20, .box 38 (.c (Rq.cv ⟨q.k, 0, 0, []⟩)))]) 300 → K fr ob nx := by
  rintro b fr ob nx rfl hf
  refine hK _ _ _ (bM hf ?_)
  clear hf hK K
  refine aH (b := _) rfl (fun hb => ?_) (fun hb => ?_)
  ·
   refine DW [(0, [], []), (1, [], []), (2, [], []), (3, [], []), (5, [], []), (4, [], [0, 1, 5]), (6, [], []), (7, [], [])] [0, 1, 0, 4, 12, 3, 63, 127] ?_
   iterate 5 refine W0 ?_
   refine bX (g := none) rfl rfl fun K' hK' => T5 ?_
   refine C3 (gP _ _ _) ?_
   rintro u rfl
   refine AX (hK' _ _ ?_)
   clear hK' K'
   iterate 2 refine W0 ?_
   refine T4 ?_
   exact key0 (inB q.n 1 32) ⟨q.k, q.n, 0, []⟩ _ _ _ (bL8 hb) (fF)
  have h1 := hb
  refine R0 ?_
  refine aH (b := _) rfl (fun hb => ?_) (fun hb => ?_)
  ·
   refine DW [(0, [], []), (1, [], []), (2, [], []), (3, [], []), (4, [], []), (5, [], []), (12, [], []), (6, [], [0, 1, 2, 3, 12]), (7, [], []), (8, [], []), (9, [], []), (10, [], [0, 1, 2, 3, 12]), (11, [], []), (13, [], [2, 3, 11]), (14, [], []), (15, [], [11]), (16, [], [])] [0, 1, 0, 4, 0, 16, 48, 112, 240, 496, 1008, 2032, 3, 6131, 14335, 30719, 65535] ?_
   iterate 7 refine W0 ?_
   refine bX (g := none) rfl rfl fun K' hK' => T5 ?_
   refine C3 (gP _ _ _) ?_
   rintro u rfl
   refine AX (hK' _ _ ?_)
   clear hK' K'
   refine W0 ?_
   refine aB8 28 rfl (fun h10_28 => ?_) (fun h10_28 => ?_)
   ·
    have F := h10_28
    iterate 2 refine WF ?_
    refine bX (g := some (29, true)) rfl rfl fun K' hK' => T6 ?_
    refine C3 (gP _ _ _) ?_
    rintro u rfl
    refine AX (hK' _ _ ?_)
    clear hK' K'
    iterate 5 refine WF ?_
    refine T4 ?_
    exact key0 (inB q.m 0 32) ⟨q.k, q.n, q.m, []⟩ _ _ _ (by rw [aL4 (by simpa using hb), h10_28, Bool.true_and]) (fF)
   have F := h10_28
   iterate 8 refine WF ?_
   refine T4 ?_
   exact key0 false ⟨q.k, q.n, q.m, []⟩ _ _ _ (by rw [aL4 (by simpa using hb), h10_28]; rfl) (fF)
  have h2 := hb
  refine R0 ?_
  refine aH (b := _) rfl (fun hb => ?_) (fun hb => ?_)
  ·
   refine DW [(0, [], []), (1, [], []), (2, [], []), (3, [], []), (5, [], []), (4, [], [0, 1, 5]), (6, [], []), (7, [], [])] [0, 1, 0, 4, 12, 3, 63, 127] ?_
   iterate 5 refine W0 ?_
   refine bX (g := none) rfl rfl fun K' hK' => T5 ?_
   refine C1 (aC2 _ hn) ?_
   rintro u rfl
   refine AX (hK' _ _ ?_)
   clear hK' K'
   iterate 2 refine W0 ?_
   refine T4 ?_
   exact key0 (dO q.t) ⟨q.k, 0, 0, q.t⟩ _ _ _ (bL9 (by simpa using hb)) (fF)
  have h3 := hb
  refine R0 ?_
  refine aH (b := _) rfl (fun hb => ?_) (fun hb => ?_)
  ·
   refine DW [(0, [], []), (1, [], []), (2, [], []), (3, [], []), (5, [], []), (4, [], [0, 1, 5]), (6, [], []), (7, [], [])] [0, 1, 0, 4, 12, 3, 63, 127] ?_
   iterate 5 refine W0 ?_
   refine bX (g := none) rfl rfl fun K' hK' => T5 ?_
   refine C3 (gP _ _ _) ?_
   rintro u rfl
   refine AX (hK' _ _ ?_)
   clear hK' K'
   iterate 2 refine W0 ?_
   refine T4 ?_
   exact key0 (inB q.n 1 10) ⟨q.k, q.n, 0, []⟩ _ _ _ (bM0 (by simpa using hb)) (fF)
  have h4 := hb
  refine R0 ?_
  refine aH (b := _) rfl (fun hb => ?_) (fun hb => ?_)
  ·
   refine DW [(0, [], []), (1, [], []), (2, [], []), (3, [], []), (5, [], []), (4, [], [0, 1, 5]), (6, [], []), (7, [], [])] [0, 1, 0, 4, 12, 3, 63, 127] ?_
   iterate 5 refine W0 ?_
   refine bX (g := none) rfl rfl fun K' hK' => T5 ?_
   refine C3 (gP _ _ _) ?_
   rintro u rfl
   refine AX (hK' _ _ ?_)
   clear hK' K'
   iterate 2 refine W0 ?_
   refine T4 ?_
   exact key0 (inB q.n 0 1099511627776) ⟨q.k, q.n, 0, []⟩ _ _ _ (bM1 (by simpa using hb)) (fF)
  have h5 := hb
  refine R0 ?_
  refine aH (b := _) rfl (fun hb => ?_) (fun hb => ?_)
  ·
   refine aJ (T3 ?_)
   exact key0 true ⟨q.k, 0, 0, []⟩ _ _ _ (bM2 (by simpa using hb)) (fF)
  refine R0 ?_
  refine aE (RT Tryz.results74 ?_)
  exact aF [] (.bool false) rfl (by rw [aW2 h1 (by simpa using h2) (by simpa using h3) (by simpa using h4) (by simpa using h5) (by simpa using hb)])
 refine R0 ?_
 refine aH (b := _) rfl (fun hb => ?_) (fun hb => ?_)
 ·
  refine aJ (T3 ?_)
  exact key (q.k == 1) _ _ _ (by rw [hb]; rfl) (fF)
 have h1 := hb
 refine R0 ?_
 refine aH (b := _) rfl (fun hb => ?_) (fun hb => ?_)
 ·
  refine aJ (T3 ?_)
  exact key (q.k == 3) _ _ _ (by rw [h1, hb]; rfl) (fF)
 have h1' := hb
 refine aL (by kernel_rfl) ?_
 simp only [↓sP, sA, tyS, simprocAttr]
 exact key (q.k == 5) _ _ _ (by rw [h1, h1']; rfl) (fF)


theorem bM7 (n : Nd) (hn : n.q.t.length < 2 ^ 63) : bT Tryz.prog 42 [n.cv] (fun v => v = .bool (bR n)) := by
 refine FW Tryz.func42 ?_
 refine R0 ?_
 refine aB fun K hK => ?_
 have key : ∀ (b : Bool) fr ob nx, b = (inB n.c 1 60 && fR n.q rq0) → Fits 0 fr ob (fin [(1, .ptr 0 0), (3, .c (.bool b))]) (fob [(0, .box 40 (.c n.cv))]) 100 → K fr ob nx := by
  rintro b fr ob nx rfl hf
  refine hK _ _ _ (bM hf ?_)
  clear hf hK K
  refine aB fun K hK => ?_
  refine R0 ?_
  refine aK ?_
  refine R0 ?_
  refine aH (b := _) rfl (fun hb => ?_) (fun hb => ?_)
  ·
   refine aB fun K hK => Rg ?_
   iterate 4 refine S0 ?_
   refine aD 24 rfl (fun h4_24 => ?_) (fun h4_24 => ?_)
   ·
    have F := h4_24
    iterate 5 refine SF ?_
    refine aD 28 rfl (fun h4_28 => ?_) (fun h4_28 => ?_)
    ·
     have F := aI h4_24 h4_28
     iterate 2 refine SF ?_
     refine aZ (g := some (30, true)) rfl rfl fun K' hK' => T6 ?_
     refine C1 (aL5 n.q hn) ?_
     rintro u rfl
     refine AX (hK' _ _ ?_)
     clear hK' K'
     iterate 2 refine SF ?_
     refine T2 (hK _ _ _ ?_)
     clear hK K
     refine aE (RT Tryz.results42 ?_)
     exact aF [] (.bool _) rfl (by rw [pA (by simpa using hb), h4_24, h4_28]; rfl)
    have F := aI h4_24 h4_28
    iterate 5 refine SF ?_
    refine T2 (hK _ _ _ ?_)
    clear hK K
    refine aE (RT Tryz.results42 ?_)
    exact aF [] (.bool _) rfl (by rw [pA (by simpa using hb), h4_24, h4_28]; rfl)
   have F := h4_24
   iterate 10 refine SF ?_
   refine T2 (hK _ _ _ ?_)
   clear hK K
   refine aE (RT Tryz.results42 ?_)
   exact aF [] (.bool _) rfl (by rw [pA (by simpa using hb), h4_24]; rfl)
  have h1 : n.k ≠ 1 := by simpa using hb
  refine aB fun K hK => ?_
  have key2 : ∀ (b : Bool) fr ob nx, b = (n.k == 2 || n.k == 3) → Fits 0 fr ob (fin [(1, .ptr 0 0), (3, .c (.bool (inB n.c 1 60 && fR n.q rq0))), (19, .c (.int .i64 n.k)), (35, .c (.bool b))]) (fob [(0, .box 40 (.c n.cv))]) 300 → K fr ob nx := by
   rintro b fr ob nx rfl hf
   refine hK _ _ _ (bM hf ?_)
   clear hf hK K
   refine aH (b := _) rfl (fun hb => ?_) (fun hb => ?_)
   ·
    refine aB fun K hK => Rg ?_
    iterate 2 refine S0 ?_
    refine aD 38 rfl (fun h7_38 => ?_) (fun h7_38 => ?_)
    ·
     have F := h7_38
     iterate 5 refine SF ?_
     refine T2 (hK _ _ _ ?_)
     clear hK K
     refine aE (RT Tryz.results42 ?_)
     exact aF [] (.bool _) rfl (by rw [zI hb, h7_38, Bool.true_and])
    have F := h7_38
    iterate 5 refine SF ?_
    refine T2 (hK _ _ _ ?_)
    clear hK K
    refine aE (RT Tryz.results42 ?_)
    exact aF [] (.bool _) rfl (by rw [zI hb, h7_38, Bool.false_and])
   have h2 := hb
   refine R0 ?_
   refine aH (b := _) rfl (fun hb => ?_) (fun hb => ?_)
   ·
    refine aB fun K hK => Rg ?_
    iterate 2 refine S0 ?_
    refine aD 46 rfl (fun h9_46 => ?_) (fun h9_46 => ?_)
    ·
     have F := h9_46
     iterate 5 refine SF ?_
     refine aD 50 rfl (fun h9_50 => ?_) (fun h9_50 => ?_)
     ·
      have F := aI h9_46 h9_50
      iterate 7 refine SF ?_
      refine T2 (hK _ _ _ ?_)
      clear hK K
      refine aE (RT Tryz.results42 ?_)
      exact aF [] (.bool _) rfl (by rw [pB (by simpa using hb), h9_46, inB, h9_50]; rfl)
     have F := aI h9_46 h9_50
     iterate 7 refine SF ?_
     refine T2 (hK _ _ _ ?_)
     clear hK K
     refine aE (RT Tryz.results42 ?_)
     exact aF [] (.bool _) rfl (by rw [pB (by simpa using hb), h9_46, inB, h9_50]; rfl)
    have F := h9_46
    iterate 12 refine SF ?_
    refine T2 (hK _ _ _ ?_)
    clear hK K
    refine aE (RT Tryz.results42 ?_)
    exact aF [] (.bool _) rfl (by rw [pB (by simpa using hb), h9_46, Bool.false_and])
   refine aJ ?_
   refine T0 (hK _ _ _ ?_)
   clear hK K
   refine R0 ?_
   refine aE (RT Tryz.results42 ?_)
   exact aF [] (.bool _) rfl (by rw [bM3 h1 h2 (by simpa using hb)])
  refine R0 ?_
  refine aH (b := _) rfl (fun hb => ?_) (fun hb => ?_)
  ·
   refine aJ (T3 ?_)
   exact key2 (n.k == 2) _ _ _ (by rw [hb]; rfl) (fF)
  have h2 := hb
  refine aL (by kernel_rfl) ?_
  simp only [↓sP, sA, tyS, simprocAttr]
  exact key2 (n.k == 3) _ _ _ (by rw [hb]; rfl) (fF)
 refine Rg ?_
 have F := aI @aD0 @bM6
 iterate 4 refine SF ?_
 refine aD 6 rfl (fun h1_6 => ?_) (fun h1_6 => ?_)
 ·
  have F := aI @aD0 (aI @bM6 h1_6)
  iterate 5 refine SF ?_
  refine aD 10 rfl (fun h1_10 => ?_) (fun h1_10 => ?_)
  ·
   have F := aI @aD0 (aI @bM6 (aI h1_6 h1_10))
   iterate 6 refine SF ?_
   refine aD 16 rfl (fun h1_16 => ?_) (fun h1_16 => ?_)
   ·
    simp only [h1_16]
    refine T4 ?_
    exact key true _ _ _ (by first | (simp only [inB, rq0, h1_6, h1_10, h1_16, Bool.true_and, Bool.false_and, Bool.and_false, Bool.and_true]; done) | (simp only [inB, h1_6, h1_10, Bool.true_and]; exact Eq.symm h1_16)) (fF)
   simp only [h1_16]
   refine T4 ?_
   exact key false _ _ _ (by first | (simp only [inB, rq0, h1_6, h1_10, h1_16, Bool.true_and, Bool.false_and, Bool.and_false, Bool.and_true]; done) | (simp only [inB, h1_6, h1_10, Bool.true_and]; exact Eq.symm h1_16)) (fF)
  have F := aI @aD0 (aI @bM6 (aI h1_6 h1_10))
  iterate 6 refine SF ?_
  refine T4 ?_
  exact key false _ _ _ (by first | (simp only [inB, rq0, h1_6, h1_10, Bool.true_and, Bool.false_and, Bool.and_false, Bool.and_true]; done) | (simp only [inB, h1_6, h1_10, Bool.true_and]; exact Eq.symm h1_16)) (fF)
 have F := aI @aD0 (aI @bM6 h1_6)
 iterate 11 refine SF ?_
 refine T4 ?_
 exact key false _ _ _ (by first | (simp only [inB, rq0, h1_6, Bool.true_and, Bool.false_and, Bool.and_false, Bool.and_true]; done) | (simp only [inB, h1_6, h1_10, Bool.true_and]; exact Eq.symm h1_16)) (fF)


end Go.Proofs.YtlldglbooaefhaaGreatDoor

namespace Go.Proofs.YtlldglbooaefhaaGreatDoor
open Go Go.Hl Go.Pl
set_option maxRecDepth 10000
set_option maxHeartbeats 16000000

theorem bT5 (q : Rq) (hn : q.t.length < 2 ^ 63) : bT Tryz.prog 75 [q.cv] (fun v => v = .bool (dZ q)) := by
 refine FW Tryz.func75 ?_
 refine R0 ?_
 refine aB fun K hK => ?_
 have key0 : ∀ (b : Bool) fr ob nx, b = inB q.n 1 32 → Fits 0 fr ob (fin [(1, .ptr 0 0), (3, .c (.bool b))]) (fob [(0, .box 38 (.c q.cv))]) 100 → K fr ob nx := by
  rintro b fr ob nx rfl hf
  refine hK _ _ _ (bM hf ?_)
  clear hf hK K
  refine aB fun K hK => ?_
  refine R0 ?_
  refine aK ?_
  refine aB fun K hK => ?_
  have key : ∀ (b : Bool) fr ob nx, b = (q.k == 1 || (q.k == 3 || q.k == 5)) → Fits 0 fr ob (fin [(1, .ptr 0 0), (3, .c (.bool (inB q.n 1 32))), (13, .c (.int .i64 q.k)), (14, .c (.bool b))]) (fob [(0, .box 38 (.c q.cv))]) 300 → K fr ob nx := by
   rintro b fr ob nx rfl hf
   refine hK _ _ _ (bM hf ?_)
   clear hf hK K
   refine aH (b := _) rfl (fun hb => ?_) (fun hb => ?_)
   ·
    refine aB fun K hK => Rg ?_
    iterate 2 refine S0 ?_
    refine aD 18 rfl (fun h6_18 => ?_) (fun h6_18 => ?_)
    ·
     have F := h6_18
     iterate 5 refine SF ?_
     refine aD 22 rfl (fun h6_22 => ?_) (fun h6_22 => ?_)
     ·
      have F := aI h6_18 h6_22
      iterate 5 refine SF ?_
      refine T2 (hK _ _ _ ?_)
      clear hK K
      refine aE (RT Tryz.results75 ?_)
      exact aF [] (.bool _) rfl (by rw [wH hb, h6_18, h6_22]; rfl)
     have F := aI h6_18 h6_22
     iterate 5 refine SF ?_
     refine T2 (hK _ _ _ ?_)
     clear hK K
     refine aE (RT Tryz.results75 ?_)
     exact aF [] (.bool _) rfl (by rw [wH hb, h6_18, h6_22]; rfl)
    have F := h6_18
    iterate 10 refine SF ?_
    refine T2 (hK _ _ _ ?_)
    clear hK K
    refine aE (RT Tryz.results75 ?_)
    exact aF [] (.bool _) rfl (by rw [wH hb, h6_18]; rfl)
   have h1 := hb
   refine R0 ?_
   refine aH (b := _) rfl (fun hb => ?_) (fun hb => ?_)
   ·
    refine aB fun K hK => Rg ?_
    iterate 2 refine S0 ?_
    refine aD 31 rfl (fun h8_31 => ?_) (fun h8_31 => ?_)
    ·
     have F := h8_31
     iterate 5 refine SF ?_
     refine aD 35 rfl (fun h8_35 => ?_) (fun h8_35 => ?_)
     ·
      have F := aI h8_31 h8_35
      iterate 5 refine SF ?_
      refine aD 40 rfl (fun h8_40 => ?_) (fun h8_40 => ?_)
      ·
       have F := aI h8_31 (aI h8_35 h8_40)
       iterate 5 refine SF ?_
       refine T2 (hK _ _ _ ?_)
       clear hK K
       refine aE (RT Tryz.results75 ?_)
       exact aF [] (.bool _) rfl (by rw [qR hb, h8_31, h8_35, h8_40]; rfl)
      have F := aI h8_31 (aI h8_35 h8_40)
      iterate 5 refine SF ?_
      refine T2 (hK _ _ _ ?_)
      clear hK K
      refine aE (RT Tryz.results75 ?_)
      exact aF [] (.bool _) rfl (by rw [qR hb, h8_31, h8_35, h8_40]; rfl)
     have F := aI h8_31 h8_35
     iterate 10 refine SF ?_
     refine T2 (hK _ _ _ ?_)
     clear hK K
     refine aE (RT Tryz.results75 ?_)
     exact aF [] (.bool _) rfl (by rw [qR hb, h8_31, h8_35]; rfl)
    have F := h8_31
    iterate 15 refine SF ?_
    refine T2 (hK _ _ _ ?_)
    clear hK K
    refine aE (RT Tryz.results75 ?_)
    exact aF [] (.bool _) rfl (by rw [qR hb, h8_31]; rfl)
   have h2 := hb
   refine R0 ?_
   refine aH (b := _) rfl (fun hb => ?_) (fun hb => ?_)
   ·
    refine aB fun K hK => Rg ?_
    iterate 4 refine S0 ?_
    refine aD 51 rfl (fun h10_51 => ?_) (fun h10_51 => ?_)
    ·
     have F := h10_51
     iterate 5 refine SF ?_
     refine aD 55 rfl (fun h10_55 => ?_) (fun h10_55 => ?_)
     ·
      have F := aI h10_51 h10_55
      iterate 2 refine SF ?_
      refine aZ (g := some (57, true)) rfl rfl fun K' hK' => T6 ?_
      refine C1 (vQ _ hn) ?_
      rintro u rfl
      refine AX (hK' _ _ ?_)
      clear hK' K'
      iterate 2 refine SF ?_
      refine T2 (hK _ _ _ ?_)
      clear hK K
      refine aE (RT Tryz.results75 ?_)
      exact aF [] (.bool _) rfl (by rw [wI hb, h10_51, h10_55]; rfl)
     have F := aI h10_51 h10_55
     iterate 5 refine SF ?_
     refine T2 (hK _ _ _ ?_)
     clear hK K
     refine aE (RT Tryz.results75 ?_)
     exact aF [] (.bool _) rfl (by rw [wI hb, h10_51, h10_55]; rfl)
    have F := h10_51
    iterate 10 refine SF ?_
    refine T2 (hK _ _ _ ?_)
    clear hK K
    refine aE (RT Tryz.results75 ?_)
    exact aF [] (.bool _) rfl (by rw [wI hb, h10_51]; rfl)
   have h3 := hb
   refine R0 ?_
   refine aH (b := _) rfl (fun hb => ?_) (fun hb => ?_)
   ·
    refine aB fun K hK => Rg ?_
    iterate 4 refine S0 ?_
    refine aD 66 rfl (fun h12_66 => ?_) (fun h12_66 => ?_)
    ·
     have F := h12_66
     iterate 5 refine SF ?_
     refine aD 70 rfl (fun h12_70 => ?_) (fun h12_70 => ?_)
     ·
      have F := aI h12_66 h12_70
      iterate 5 refine SF ?_
      refine aD 75 rfl (fun h12_75 => ?_) (fun h12_75 => ?_)
      ·
       have F := aI h12_66 (aI h12_70 h12_75)
       iterate 5 refine SF ?_
       refine T2 (hK _ _ _ ?_)
       clear hK K
       refine aE (RT Tryz.results75 ?_)
       exact aF [] (.bool _) rfl (by rw [qS hb, h12_66, h12_70, h12_75]; rfl)
      have F := aI h12_66 (aI h12_70 h12_75)
      iterate 5 refine SF ?_
      refine T2 (hK _ _ _ ?_)
      clear hK K
      refine aE (RT Tryz.results75 ?_)
      exact aF [] (.bool _) rfl (by rw [qS hb, h12_66, h12_70, h12_75]; rfl)
     have F := aI h12_66 h12_70
     iterate 10 refine SF ?_
     refine T2 (hK _ _ _ ?_)
     clear hK K
     refine aE (RT Tryz.results75 ?_)
     exact aF [] (.bool _) rfl (by rw [qS hb, h12_66, h12_70]; rfl)
    have F := h12_66
    iterate 15 refine SF ?_
    refine T2 (hK _ _ _ ?_)
    clear hK K
    refine aE (RT Tryz.results75 ?_)
    exact aF [] (.bool _) rfl (by rw [qS hb, h12_66]; rfl)
   have h4 := hb
   refine R0 ?_
   refine aH (b := _) rfl (fun hb => ?_) (fun hb => ?_)
   ·
    refine aB fun K hK => Rg ?_
    iterate 2 refine S0 ?_
    refine HS rfl rfl fun K' hK' => T5 ?_
    refine C1 (vP _) ?_
    rintro u rfl
    refine AX (hK' _ _ ?_)
    clear hK' K'
    refine S0 ?_
    refine aD 86 rfl (fun h14_86 => ?_) (fun h14_86 => ?_)
    ·
     have F := h14_86
     iterate 5 refine SF ?_
     refine aD 90 rfl (fun h14_90 => ?_) (fun h14_90 => ?_)
     ·
      have F := aI h14_86 h14_90
      iterate 5 refine SF ?_
      refine T2 (hK _ _ _ ?_)
      clear hK K
      refine aE (RT Tryz.results75 ?_)
      exact aF [] (.bool _) rfl (by rw [wJ hb, h14_86, h14_90]; rfl)
     have F := aI h14_86 h14_90
     iterate 5 refine SF ?_
     refine T2 (hK _ _ _ ?_)
     clear hK K
     refine aE (RT Tryz.results75 ?_)
     exact aF [] (.bool _) rfl (by rw [wJ hb, h14_86, h14_90]; rfl)
    have F := h14_86
    iterate 10 refine SF ?_
    refine T2 (hK _ _ _ ?_)
    clear hK K
    refine aE (RT Tryz.results75 ?_)
    exact aF [] (.bool _) rfl (by rw [wJ hb, h14_86]; rfl)
   have h5 := hb
   refine R0 ?_
   refine aH (b := _) rfl (fun hb => ?_) (fun hb => ?_)
   ·
    refine aB fun K hK => Rg ?_
    iterate 4 refine S0 ?_
    refine aD 101 rfl (fun h16_101 => ?_) (fun h16_101 => ?_)
    ·
     have F := h16_101
     iterate 5 refine SF ?_
     refine aD 105 rfl (fun h16_105 => ?_) (fun h16_105 => ?_)
     ·
      have F := aI h16_101 h16_105
      iterate 5 refine SF ?_
      refine T2 (hK _ _ _ ?_)
      clear hK K
      refine aE (RT Tryz.results75 ?_)
      exact aF [] (.bool _) rfl (by rw [wK hb, h16_101, h16_105]; rfl)
     have F := aI h16_101 h16_105
     iterate 5 refine SF ?_
     refine T2 (hK _ _ _ ?_)
     clear hK K
     refine aE (RT Tryz.results75 ?_)
     exact aF [] (.bool _) rfl (by rw [wK hb, h16_101, h16_105]; rfl)
    have F := h16_101
    iterate 10 refine SF ?_
    refine T2 (hK _ _ _ ?_)
    clear hK K
    refine aE (RT Tryz.results75 ?_)
    exact aF [] (.bool _) rfl (by rw [wK hb, h16_101]; rfl)
   refine aJ ?_
   refine T0 (hK _ _ _ ?_)
   clear hK K
   refine R0 ?_
   refine aE (RT Tryz.results75 ?_)
   exact aF [] (.bool false) rfl (by rw [aW2 h1 (by simpa using h2) (by simpa using h3) (by simpa using h4) (by simpa using h5) (by simpa using hb)])
  refine R0 ?_
  refine aH (b := _) rfl (fun hb => ?_) (fun hb => ?_)
  ·
   refine aJ (T3 ?_)
   exact key (q.k == 1) _ _ _ (by rw [hb]; rfl) (fF)
  have h1 := hb
  refine R0 ?_
  refine aH (b := _) rfl (fun hb => ?_) (fun hb => ?_)
  ·
   refine aJ (T3 ?_)
   exact key (q.k == 3) _ _ _ (by rw [h1, hb]; rfl) (fF)
  have h1' := hb
  refine aL (by kernel_rfl) ?_
  simp only [↓sP, sA, tyS, simprocAttr]
  exact key (q.k == 5) _ _ _ (by rw [h1, h1']; rfl) (fF)
 refine Rg ?_
 iterate 4 refine S0 ?_
 refine aD 6 rfl (fun h1_6 => ?_) (fun h1_6 => ?_)
 ·
  have F := h1_6
  iterate 5 refine SF ?_
  refine aD 10 rfl (fun h1_10 => ?_) (fun h1_10 => ?_)
  ·
   simp only [h1_10]
   refine T4 ?_
   exact key0 true _ _ _ (by simp only [inB, h1_6, h1_10, Bool.true_and, Bool.false_and]) (fF)
  simp only [h1_10]
  refine T4 ?_
  exact key0 false _ _ _ (by simp only [inB, h1_6, h1_10, Bool.true_and, Bool.false_and]) (fF)
 have F := h1_6
 iterate 5 refine SF ?_
 refine T4 ?_
 exact key0 false _ _ _ (by simp only [inB, h1_6, Bool.true_and, Bool.false_and]) (fF)


theorem bM8 (n : Nd) (hn : n.q.t.length < 2 ^ 63) : bT Tryz.prog 43 [n.cv] (fun v => v = .bool (nI n)) := by
 refine FW Tryz.func43 ?_
 refine R0 ?_
 refine aB fun K hK => Rg ?_
 have F := @aD0
 iterate 5 refine SF ?_
 refine T2 (hK _ _ _ ?_)
 clear hK K
 refine aB fun K hK => ?_
 refine R0 ?_
 refine aK ?_
 refine R0 ?_
 refine aH (b := _) rfl (fun hb => ?_) (fun hb => ?_)
 ·
  refine aB fun K hK => Rg ?_
  iterate 4 refine S0 ?_
  refine aD 14 rfl (fun h4_14 => ?_) (fun h4_14 => ?_)
  ·
   have F := h4_14
   iterate 5 refine SF ?_
   refine aD 18 rfl (fun h4_18 => ?_) (fun h4_18 => ?_)
   ·
    have F := aI h4_14 h4_18
    iterate 2 refine SF ?_
    refine aZ (g := some (20, true)) rfl rfl fun K' hK' => T6 ?_
    refine C1 (bT5 n.q hn) ?_
    rintro u rfl
    refine AX (hK' _ _ ?_)
    clear hK' K'
    iterate 2 refine SF ?_
    refine T2 (hK _ _ _ ?_)
    clear hK K
    refine aE (RT Tryz.results43 ?_)
    exact aF [] (.bool _) rfl (by rw [pC (by simpa using hb), h4_14, h4_18]; rfl)
   have F := aI h4_14 h4_18
   iterate 5 refine SF ?_
   refine T2 (hK _ _ _ ?_)
   clear hK K
   refine aE (RT Tryz.results43 ?_)
   exact aF [] (.bool _) rfl (by rw [pC (by simpa using hb), h4_14, h4_18]; rfl)
  have F := h4_14
  iterate 10 refine SF ?_
  refine T2 (hK _ _ _ ?_)
  clear hK K
  refine aE (RT Tryz.results43 ?_)
  exact aF [] (.bool _) rfl (by rw [pC (by simpa using hb), h4_14]; rfl)
 have h1 : n.k ≠ 1 := by simpa using hb
 refine aB fun K hK => ?_
 have key2 : ∀ (b : Bool) fr ob nx, b = (n.k == 2 || n.k == 3) → Fits 0 fr ob (fin [(1, .ptr 0 0), (3, .c (.bool (fR n.q rq0))), (9, .c (.int .i64 n.k)), (25, .c (.bool b))]) (fob [(0, .box 40 (.c n.cv))]) 300 → K fr ob nx := by
  rintro b fr ob nx rfl hf
  refine hK _ _ _ (bM hf ?_)
  clear hf hK K
  refine aH (b := _) rfl (fun hb => ?_) (fun hb => ?_)
  ·
   refine aB fun K hK => Rg ?_
   iterate 4 refine S0 ?_
   refine aD 30 rfl (fun h7_30 => ?_) (fun h7_30 => ?_)
   ·
    have F := h7_30
    iterate 5 refine SF ?_
    refine aD 34 rfl (fun h7_34 => ?_) (fun h7_34 => ?_)
    ·
     have F := aI h7_30 h7_34
     iterate 3 refine SF ?_
     refine T2 (hK _ _ _ ?_)
     clear hK K
     refine aE (RT Tryz.results43 ?_)
     exact aF [] (.bool _) rfl (by rw [sB hb, h7_30, h7_34]; rfl)
    have F := aI h7_30 h7_34
    iterate 3 refine SF ?_
    refine T2 (hK _ _ _ ?_)
    clear hK K
    refine aE (RT Tryz.results43 ?_)
    exact aF [] (.bool _) rfl (by rw [sB hb, h7_30, h7_34]; rfl)
   have F := h7_30
   iterate 8 refine SF ?_
   refine T2 (hK _ _ _ ?_)
   clear hK K
   refine aE (RT Tryz.results43 ?_)
   exact aF [] (.bool _) rfl (by rw [sB hb, h7_30]; rfl)
  have h2 := hb
  refine R0 ?_
  refine aH (b := _) rfl (fun hb => ?_) (fun hb => ?_)
  ·
   refine aB fun K hK => Rg ?_
   iterate 4 refine S0 ?_
   refine aD 43 rfl (fun h9_43 => ?_) (fun h9_43 => ?_)
   ·
    have F := h9_43
    iterate 5 refine SF ?_
    refine aD 47 rfl (fun h9_47 => ?_) (fun h9_47 => ?_)
    ·
     have F := aI h9_43 h9_47
     iterate 7 refine SF ?_
     refine aD 54 rfl (fun h9_54 => ?_) (fun h9_54 => ?_)
     ·
      have F := aI h9_43 (aI h9_47 h9_54)
      iterate 3 refine SF ?_
      refine T2 (hK _ _ _ ?_)
      clear hK K
      refine aE (RT Tryz.results43 ?_)
      exact aF [] (.bool _) rfl (by rw [lR (by simpa using hb), h9_43, h9_47, h9_54]; rfl)
     have F := aI h9_43 (aI h9_47 h9_54)
     iterate 3 refine SF ?_
     refine T2 (hK _ _ _ ?_)
     clear hK K
     refine aE (RT Tryz.results43 ?_)
     exact aF [] (.bool _) rfl (by rw [lR (by simpa using hb), h9_43, h9_47, h9_54]; rfl)
    have F := aI h9_43 h9_47
    iterate 10 refine SF ?_
    refine T2 (hK _ _ _ ?_)
    clear hK K
    refine aE (RT Tryz.results43 ?_)
    exact aF [] (.bool _) rfl (by rw [lR (by simpa using hb), h9_43, h9_47]; rfl)
   have F := h9_43
   iterate 15 refine SF ?_
   refine T2 (hK _ _ _ ?_)
   clear hK K
   refine aE (RT Tryz.results43 ?_)
   exact aF [] (.bool _) rfl (by rw [lR (by simpa using hb), h9_43]; rfl)
  refine aJ ?_
  refine T0 (hK _ _ _ ?_)
  clear hK K
  refine R0 ?_
  refine aE (RT Tryz.results43 ?_)
  exact aF [] (.bool _) rfl (by rw [bM4 h1 h2 (by simpa using hb)])
 refine R0 ?_
 refine aH (b := _) rfl (fun hb => ?_) (fun hb => ?_)
 ·
  refine aJ (T3 ?_)
  exact key2 (n.k == 2) _ _ _ (by rw [hb]; rfl) (aM (by omega) (by simp [aY, fin_at, finA_at, upd_at, HV.men, HV.menL, HV.norm, HV.toC, HV.toCL, rq0]) (by simp [bB, fob_at, upd_at, none0_at, bZ, HO.men, HV.men, HV.menL, HV.norm, HV.toC, HV.toCL, rq0]))
 have h2 := hb
 refine aL (by kernel_rfl) ?_
 simp only [↓sP, sA, tyS, simprocAttr]
 exact key2 (n.k == 3) _ _ _ (by rw [hb]; rfl) (aM (by omega) (by simp [aY, fin_at, finA_at, upd_at, HV.men, HV.menL, HV.norm, HV.toC, HV.toCL, rq0]) (by simp [bB, fob_at, upd_at, none0_at, bZ, HO.men, HV.men, HV.menL, HV.norm, HV.toC, HV.toCL, rq0]))

end Go.Proofs.YtlldglbooaefhaaGreatDoor

namespace Go.Proofs.YtlldglbooaefhaaGreatDoor
open Go Go.Hl Go.Pl
set_option maxRecDepth 10000
set_option maxHeartbeats 16000000

theorem cK (n : Int) (h : -4611686018427387904 ≤ n ∧ n ≤ 4611686018427387904) : IntKind.i64.wrap n = n := IntWalk.i64_in _ (by omega)

theorem uA (l : List Nd) (hn : ∀ n ∈ l, n.q.t.length < 2 ^ 63) : bT Tryz.prog 13 [.slc (l.map Nd.cv)] (fun v => v = .bool (cZ l)) := by
 refine FW Tryz.func13 ?_
 refine R0 ?_
 refine aB fun K hK => ?_
 refine aB fun K hK => Rg ?_
 iterate 4 refine S0 ?_
 refine aD 9 rfl (fun h1_9 => ?_) (fun h1_9 => ?_)
 ·
  have F := h1_9
  iterate 4 refine SF ?_
  refine T2 (hK _ _ _ ?_)
  clear hK K
  refine CT rfl ?_
  refine R0 ?_
  refine aE (RT Tryz.results13 ?_)
  exact aF [] (.bool false) rfl (by rw [jZ (.inl (by simp only [decide_eq_true_eq] at h1_9; omega))])
 have F := h1_9
 iterate 4 refine SF ?_
 refine aD 13 rfl (fun h1_13 => ?_) (fun h1_13 => ?_)
 ·
  simp only [h1_13]
  refine T2 (hK _ _ _ ?_)
  clear hK K
  refine CT rfl ?_
  refine R0 ?_
  refine aE (RT Tryz.results13 ?_)
  exact aF [] (.bool false) rfl (by rw [jZ (.inr (by simp only [decide_eq_true_eq] at h1_13; omega))])
 simp only [h1_13]
 refine T2 (hK _ _ _ ?_)
 clear hK K
 refine CF rfl ?_
 refine aJ ?_
 refine T0 (hK _ _ _ ?_)
 clear hK K
 have hl1 : 1 ≤ l.length := by simp only [decide_eq_false_iff_not] at h1_9; omega
 have hl2 : l.length ≤ 60 := by simp only [decide_eq_false_iff_not] at h1_13; omega
 clear h1_9 h1_13
 refine R0 ?_
 refine aB fun K hK => ?_
 refine R0 ?_
 refine aK ?_
 refine bE (α := {y : Nat × Int × Int // ScSt l y.1 y.2.1 y.2.2}) (fun y => (fin [(3, .c (.int .i64 y.1.2.1)), (4, .c (.int .i64 y.1.2.2)), (15, .c (.slc (l.map Nd.cv))), (16, .c (.int .i64 l.length)), (17, .c (.int .i64 y.1.1))], fob [])) 200 (fun y => l.length - y.1.1) ⟨(0, 1, 0), ScSt.init l⟩ (fF) ?_
 rintro ⟨⟨i, m, v⟩, hst⟩
 simp only at hst
 have hi := hst.le
 have hm0 := hst.m0
 have hm1 := hst.m1
 have hv0 := hst.v0
 have hv1 := hst.v1
 refine R0 ?_
 refine aB fun K hK => ?_
 refine aH (b := decide ((i : Int) < l.length)) rfl (fun hb => ?_) (fun hb => ?_)
 ·
  have hlt : i < l.length := by simpa using hb
  clear hb
  refine aJ ?_
  refine T0 (hK _ _ _ ?_)
  clear hK K
  refine aB fun K hK => ?_
  refine aK ?_
  refine aB fun K hK => Rg ?_
  have F := aI @Int.natCast_nonneg (aI @Int.ofNat_lt (aI hlt (nM hlt)))
  iterate 4 refine SF ?_
  refine T2 (hK _ _ _ ?_)
  clear hK K
  refine aB fun K hK => ?_
  refine aB fun K hK => Rg ?_
  iterate 3 refine S0 ?_
  refine aD 22 rfl (fun h7_22 => ?_) (fun h7_22 => ?_)
  ·
   have F := h7_22
   iterate 4 refine SF ?_
   refine T2 (hK _ _ _ ?_)
   clear hK K
   refine CT rfl ?_
   refine R0 ?_
   refine aE (RT Tryz.results13 ?_)
   exact aF [] (.bool false) rfl (by rw [hst.stop hlt (.inl (by simpa using h7_22))])
  have F := h7_22
  refine SF ?_
  refine aZ (g := some (23, false)) rfl rfl fun K' hK' => T6 ?_
  refine C1 (bM7 l[i] (hn _ (List.getElem_mem hlt))) ?_
  rintro u rfl
  refine AX (hK' _ _ ?_)
  clear hK' K'
  iterate 2 refine SF ?_
  refine aD 25 rfl (fun h7_25 => ?_) (fun h7_25 => ?_)
  ·
   simp only [h7_25]
   refine T2 (hK _ _ _ ?_)
   clear hK K
   refine CF rfl ?_
   refine aJ ?_
   refine T0 (hK _ _ _ ?_)
   clear hK K
   have hnb : bR l[i] = true := by simpa using h7_25
   have hm : m ≠ 0 := by simpa using h7_22
   obtain ⟨c1, c2, c3, c4⟩ := dF hnb
   have hnx := hst.next hlt hm hnb
   clear h7_22 h7_25
   refine aB fun K hK => Rg ?_
   iterate 6 refine S0 ?_ (e := fun _ h_ => by simp only [sH, ↓sP, sA, tyS, simprocAttr, cK (l[i].c - 1) (by omega), cK (m + (l[i].c - 1)) (by omega)]; exact AX h_)
   refine T2 (hK _ _ _ ?_)
   clear hK K
   refine R0 ?_
   refine aH (b := _) rfl (fun hb => ?_) (fun hb => ?_)
   ·
    refine aL (by kernel_rfl) ?_
    simp only [↓sP, sA, tyS, simprocAttr, cK (v + 1) (by omega)]
    refine AX (hK _ _ _ ?_)
    clear hK K
    refine aL (by kernel_rfl) ?_
    simp only [↓sP, sA, tyS, simprocAttr, cK ((i : Int) + 1) (by omega)]
    rw [if_pos (by simpa using hb)] at hnx
    refine ⟨⟨(i + 1, _, _), hnx⟩, fF, ?_⟩
    show l.length - (i + 1) < l.length - i
    omega
   refine aJ ?_
   refine T0 (hK _ _ _ ?_)
   clear hK K
   refine aL (by kernel_rfl) ?_
   simp only [↓sP, sA, tyS, simprocAttr, cK ((i : Int) + 1) (by omega)]
   rw [if_neg (by simpa using hb)] at hnx
   refine ⟨⟨(i + 1, _, _), hnx⟩, fF, ?_⟩
   show l.length - (i + 1) < l.length - i
   omega
  simp only [h7_25]
  refine T2 (hK _ _ _ ?_)
  clear hK K
  refine CT rfl ?_
  refine R0 ?_
  refine aE (RT Tryz.results13 ?_)
  exact aF [] (.bool false) rfl (by rw [hst.stop hlt (.inr (by simpa using h7_25))])
 refine aX (T3 ?_)
 clear hK K
 refine AX (hK _ _ _ ?_)
 clear hK K
 have hei : i = l.length := by simp only [decide_eq_false_iff_not] at hb; omega
 subst hei
 have hf := hst.fin hl1 hl2
 clear hb
 refine aB fun K hK => Rg ?_
 iterate 3 refine S0 ?_
 refine aD 40 rfl (fun h13_40 => ?_) (fun h13_40 => ?_)
 ·
  have F := h13_40
  iterate 4 refine SF ?_
  refine T2 (hK _ _ _ ?_)
  clear hK K
  refine aE (RT Tryz.results13 ?_)
  exact aF [] (.bool _) rfl (by rw [hf, h13_40, Bool.true_and])
 have F := h13_40
 iterate 4 refine SF ?_
 refine T2 (hK _ _ _ ?_)
 clear hK K
 refine aE (RT Tryz.results13 ?_)
 exact aF [] (.bool false) rfl (by rw [hf, h13_40, Bool.false_and])

end Go.Proofs.YtlldglbooaefhaaGreatDoor

namespace Go.Proofs.YtlldglbooaefhaaGreatDoor
open Go Go.Hl Go.Pl
set_option maxRecDepth 10000
set_option maxHeartbeats 16000000

theorem bM9 (l : List Nd) (hn : ∀ n ∈ l, n.q.t.length < 2 ^ 63) : bT Tryz.prog 14 [.slc (l.map Nd.cv)] (fun v => v = .bool (cZ l)) := by
 refine FW Tryz.func14 ?_
 refine R0 ?_
 refine aB fun K hK => ?_
 refine aB fun K hK => Rg ?_
 iterate 4 refine S0 ?_
 refine aD 8 rfl (fun h1_8 => ?_) (fun h1_8 => ?_)
 ·
  have F := h1_8
  iterate 4 refine SF ?_
  refine T2 (hK _ _ _ ?_)
  clear hK K
  refine CT rfl ?_
  refine R0 ?_
  refine aE (RT Tryz.results14 ?_)
  exact aF [] (.bool false) rfl (by rw [jZ (.inl (by simp only [decide_eq_true_eq] at h1_8; omega))])
 have F := h1_8
 iterate 4 refine SF ?_
 refine aD 12 rfl (fun h1_12 => ?_) (fun h1_12 => ?_)
 ·
  simp only [h1_12]
  refine T2 (hK _ _ _ ?_)
  clear hK K
  refine CT rfl ?_
  refine R0 ?_
  refine aE (RT Tryz.results14 ?_)
  exact aF [] (.bool false) rfl (by rw [jZ (.inr (by simp only [decide_eq_true_eq] at h1_12; omega))])
 simp only [h1_12]
 refine T2 (hK _ _ _ ?_)
 clear hK K
 refine CF rfl ?_
 refine aJ ?_
 refine T0 (hK _ _ _ ?_)
 clear hK K
 have hl1 : 1 ≤ l.length := by simp only [decide_eq_false_iff_not] at h1_8; omega
 have hl2 : l.length ≤ 60 := by simp only [decide_eq_false_iff_not] at h1_12; omega
 clear h1_8 h1_12
 refine R0 ?_
 refine aB fun K hK => ?_
 refine R0 ?_
 refine aK ?_
 refine bE (α := {y : Nat × Int × Int // ScSt l y.1 y.2.1 y.2.2}) (fun y => (fin [(0, .c (.slc (l.map Nd.cv))), (3, .c (.int .i64 y.1.2.1)), (4, .c (.int .i64 y.1.2.2)), (5, .c (.int .i64 y.1.1))], fob [])) 200 (fun y => l.length - y.1.1) ⟨(0, 1, 0), ScSt.init l⟩ (fF) ?_
 rintro ⟨⟨i, m, v⟩, hst⟩
 simp only at hst
 have hi := hst.le
 have hm0 := hst.m0
 have hm1 := hst.m1
 have hv0 := hst.v0
 have hv1 := hst.v1
 refine aB fun K hK => ?_
 refine aB fun K hK => Rg ?_
 iterate 4 refine S0 ?_
 refine T2 (hK _ _ _ ?_)
 clear hK K
 refine aH (b := decide ((i : Int) < l.length)) rfl (fun hb => ?_) (fun hb => ?_)
 ·
  have hlt : i < l.length := by simpa using hb
  clear hb
  refine aJ ?_
  refine T0 (hK _ _ _ ?_)
  clear hK K
  refine aB fun K hK => ?_
  refine aK ?_
  refine aB fun K hK => ?_
  refine aB fun K hK => Rg ?_
  have F := aI @Int.natCast_nonneg (aI @Int.ofNat_lt (aI hlt (nM hlt)))
  iterate 3 refine SF ?_
  refine aD 21 rfl (fun h7_21 => ?_) (fun h7_21 => ?_)
  ·
   have F := aI @Int.natCast_nonneg (aI @Int.ofNat_lt (aI hlt (aI (nM hlt) h7_21)))
   iterate 15 refine SF ?_
   refine T2 (hK _ _ _ ?_)
   clear hK K
   refine CT rfl ?_
   refine R0 ?_
   refine aE (RT Tryz.results14 ?_)
   exact aF [] (.bool false) rfl (by rw [hst.stop hlt (.inl (by simpa using h7_21))])
  have F := aI @Int.natCast_nonneg (aI @Int.ofNat_lt (aI hlt (aI (nM hlt) h7_21)))
  iterate 4 refine SF ?_
  refine aZ (g := some (22, false)) rfl rfl fun K' hK' => T6 ?_
  refine C1 (bM8 l[i] (hn _ (List.getElem_mem hlt))) ?_
  rintro u rfl
  refine AX (hK' _ _ ?_)
  clear hK' K'
  iterate 3 refine SF ?_
  refine aD 27 rfl (fun h7_27 => ?_) (fun h7_27 => ?_)
  ·
   have F := aI @Int.natCast_nonneg (aI @Int.ofNat_lt (aI hlt (aI (nM hlt) (aI h7_21 h7_27))))
   iterate 7 refine SF ?_
   refine aD 36 rfl (fun h7_36 => ?_) (fun h7_36 => ?_)
   ·
    simp only [h7_36]
    refine T2 (hK _ _ _ ?_)
    clear hK K
    refine CT rfl ?_
    refine R0 ?_
    refine aE (RT Tryz.results14 ?_)
    exact aF [] (.bool false) rfl (by rw [hst.stop hlt (.inr (by rw [aC9, h7_27, h7_36]; rfl))])
   simp only [h7_36]
   refine T2 (hK _ _ _ ?_)
   clear hK K
   refine CF rfl ?_
   refine aJ ?_
   refine T0 (hK _ _ _ ?_)
   clear hK K
   have hnb : bR l[i] = true := by rw [aC9, h7_27, h7_36]; rfl
   have hm : m ≠ 0 := by simpa using h7_21
   obtain ⟨c1, c2, c3, c4⟩ := dF hnb
   have hnx := hst.next hlt hm hnb
   clear h7_21 h7_27 h7_36
   refine aB fun K hK => Rg ?_
   iterate 9 refine S0 ?_ (e := fun _ h_ => by simp only [sH, ↓sP, sA, tyS, simprocAttr, Int.natCast_nonneg, Int.ofNat_lt, hlt, bN hlt, cK (l[i].c - 1) (by omega), cK (m + (l[i].c - 1)) (by omega)]; exact AX h_)
   refine T2 (hK _ _ _ ?_)
   clear hK K
   refine aB fun K hK => Rg ?_
   have F := aI @Int.natCast_nonneg (aI @Int.ofNat_lt (aI hlt (nM hlt)))
   iterate 6 refine SF ?_
   refine T2 (hK _ _ _ ?_)
   clear hK K
   refine aH (b := _) rfl (fun hb => ?_) (fun hb => ?_)
   ·
    refine aL (by kernel_rfl) ?_
    simp only [↓sP, sA, tyS, simprocAttr, cK (v + 1) (by omega)]
    refine AX (hK _ _ _ ?_)
    clear hK K
    refine aL (by kernel_rfl) ?_
    simp only [↓sP, sA, tyS, simprocAttr, cK ((i : Int) + 1) (by omega)]
    rw [if_pos (by simpa using hb)] at hnx
    refine ⟨⟨(i + 1, _, _), hnx⟩, fF, ?_⟩
    show l.length - (i + 1) < l.length - i
    omega
   refine aJ ?_
   refine T0 (hK _ _ _ ?_)
   clear hK K
   refine aL (by kernel_rfl) ?_
   simp only [↓sP, sA, tyS, simprocAttr, cK ((i : Int) + 1) (by omega)]
   rw [if_neg (by simpa using hb)] at hnx
   refine ⟨⟨(i + 1, _, _), hnx⟩, fF, ?_⟩
   show l.length - (i + 1) < l.length - i
   omega
  have F := aI @Int.natCast_nonneg (aI @Int.ofNat_lt (aI hlt (aI (nM hlt) (aI h7_21 h7_27))))
  iterate 7 refine SF ?_
  refine T2 (hK _ _ _ ?_)
  clear hK K
  refine CT rfl ?_
  refine R0 ?_
  refine aE (RT Tryz.results14 ?_)
  exact aF [] (.bool false) rfl (by rw [hst.stop hlt (.inr (by rw [aC9, h7_27]; rfl))])
 refine aX (T3 ?_)
 clear hK K
 refine AX (hK _ _ _ ?_)
 clear hK K
 have hei : i = l.length := by simp only [decide_eq_false_iff_not] at hb; omega
 subst hei
 have hf := hst.fin hl1 hl2
 clear hb
 refine aB fun K hK => Rg ?_
 iterate 3 refine S0 ?_
 refine aD 55 rfl (fun h12_55 => ?_) (fun h12_55 => ?_)
 ·
  have F := h12_55
  iterate 4 refine SF ?_
  refine T2 (hK _ _ _ ?_)
  clear hK K
  refine aE (RT Tryz.results14 ?_)
  exact aF [] (.bool _) rfl (by rw [hf, h12_55, Bool.true_and])
 have F := h12_55
 iterate 4 refine SF ?_
 refine T2 (hK _ _ _ ?_)
 clear hK K
 refine aE (RT Tryz.results14 ?_)
 exact aF [] (.bool false) rfl (by rw [hf, h12_55, Bool.false_and])

end Go.Proofs.YtlldglbooaefhaaGreatDoor

namespace Go.Proofs.YtlldglbooaefhaaGreatDoor
open Go Go.Hl Go.Pl
set_option maxRecDepth 10000
set_option maxHeartbeats 16000000

def iC (n : Nat) : CV := .int .i64 n
theorem zJ (l : List Nat) : CV.denilL (l.map iC) = l.map iC := cA (fun _ => rfl) l
theorem bN0 (l : List Nd) (ht : IsTree l) (i : Nat) (hi : i < l.length) : bT Tryz.prog 44 [.slc (l.map Nd.cv), .int .i64 i] (fun v => v = .int .i64 (aft l i : Nat)) := by
 have hl := ht.len
 refine FW Tryz.func44 ?_
 refine R0 ?_
 refine aB fun K hK => ?_
 refine R0 ?_
 refine aK ?_
 refine bE (α := {y : Nat × Nat // AftSt l i y.1 y.2 ∧ y.1 ≤ 1 + 60 * y.2}) (fun y => (fin [(0, .c (.slc (l.map Nd.cv))), (1, .c (.int .i64 y.1.2)), (5, .c (.int .i64 y.1.1))], fob [])) 100 (fun y => l.length - y.1.2) ⟨(1, i), ⟨Nat.le_of_lt hi, rfl⟩, by omega⟩ (fF) ?_
 rintro ⟨⟨m, p⟩, hst, hm⟩
 simp only at hst hm
 have hp := hst.1
 refine aB fun K hK => ?_
 refine R0 ?_
 refine aH (b := decide ((0 : Int) < (m : Int))) rfl (fun hb => ?_) (fun hb => ?_)
 ·
  have hm1 : 0 < m := by simpa using hb
  have hpl := hst.lt ht hi hm1
  obtain ⟨c1, c2, _, _⟩ := dF (ht.node _ (List.getElem_mem hpl))
  obtain ⟨m', rfl⟩ : ∃ m', m = m' + 1 := ⟨m - 1, by omega⟩
  have hnx := hst.next hpl
  have hw1 : IntKind.i64.wrap (((m' + 1 : Nat) : Int) + (l[p].c - 1)) = ((m' + l[p].c.toNat : Nat) : Int) := by rw [cK _ (by omega)]; omega
  have hw2 : IntKind.i64.wrap ((p : Int) + 1) = ((p + 1 : Nat) : Int) := by rw [cK _ (by omega)]; rfl
  clear hb
  refine aJ ?_
  refine T0 (hK _ _ _ ?_)
  clear hK K
  refine aB fun K hK => ?_
  refine aK ?_
  refine Rg ?_
  iterate 9 refine S0 ?_ (e := fun _ h_ => by simp only [sH, ↓sP, sA, tyS, simprocAttr, Int.natCast_nonneg, Int.ofNat_lt, hpl, bN hpl, cK (l[p].c - 1) (by omega), hw1]; exact AX h_)
  refine T2 (hK _ _ _ ?_)
  clear hK K
  refine aL (by kernel_rfl) ?_
  refine TQ hw2 ?_
  refine ⟨⟨(m' + l[p].c.toNat, p + 1), hnx, by simp only; omega⟩, fF, ?_⟩
  show l.length - (p + 1) < l.length - p
  omega
 refine aX (T3 ?_)
 clear hK K
 refine AX (hK _ _ _ ?_)
 clear hK K
 refine R0 ?_
 refine aE (RT Tryz.results44 ?_)
 have hm0 : m = 0 := by simpa using hb
 subst hm0
 exact aF [] (.int .i64 p) rfl (by rw [hst.fin])


theorem aL6 (l : List Nd) (hn : ∀ n ∈ l, n.q.t.length < 2 ^ 63) (i : Int) : bT Tryz.prog 16 [.slc (l.map Nd.cv), .int .i64 i] (fun v => v = .slc ((rV l i).map iC)) := by
 refine FW Tryz.func16 ?_
 refine R0 ?_
 refine aB fun K hK => ?_
 refine aB fun K hK => Rg ?_
 refine S0 ?_
 refine HS rfl rfl fun K' hK' => T5 ?_
 refine C1 (uA l hn) ?_
 rintro u rfl
 refine AX (hK' _ _ ?_)
 clear hK' K'
 iterate 2 refine S0 ?_
 refine aD 8 rfl (fun h1_8 => ?_) (fun h1_8 => ?_)
 ·
  have F := h1_8
  iterate 4 refine SF ?_
  refine aD 12 rfl (fun h1_12 => ?_) (fun h1_12 => ?_)
  ·
   have F := aI h1_8 h1_12
   iterate 5 refine SF ?_
   refine T2 (hK _ _ _ ?_)
   clear hK K
   refine CT rfl ?_
   refine R0 ?_
   refine aE (RT Tryz.results16 ?_)
   exact aF [] (.slc []) rfl (by rw [pD (.inr (.inl (by simpa using h1_12)))]; rfl)
  have F := aI h1_8 h1_12
  iterate 5 refine SF ?_
  refine aD 18 rfl (fun h1_18 => ?_) (fun h1_18 => ?_)
  ·
   simp only [h1_18]
   refine T2 (hK _ _ _ ?_)
   clear hK K
   refine CT rfl ?_
   refine R0 ?_
   refine aE (RT Tryz.results16 ?_)
   exact aF [] (.slc []) rfl (by rw [pD (.inr (.inr (by simpa using h1_18)))]; rfl)
  simp only [h1_18]
  refine T2 (hK _ _ _ ?_)
  clear hK K
  refine CF rfl ?_
  refine aJ ?_
  refine T0 (hK _ _ _ ?_)
  clear hK K
  obtain ⟨j, rfl⟩ : ∃ j : Nat, i = j := ⟨i.toNat, by simp at h1_12; omega⟩
  have hj : j < l.length := by simp at h1_18; omega
  have ht := kQ h1_8
  have hcv := bC6 h1_8 hj
  have hl := ht.len
  obtain ⟨c1, c2, _, _⟩ := dF (ht.node _ (List.getElem_mem hj))
  have hw2 : IntKind.i64.wrap ((j : Int) + 1) = ((j + 1 : Nat) : Int) := by rw [cK _ (by omega)]; rfl
  clear h1_8 h1_12 h1_18
  refine R0 ?_
  refine aB fun K hK => ?_
  have F := hw2
  refine RF ?_
  refine aK ?_
  refine mM 5 0 3 1 rfl rfl rfl rfl ?_
  refine bE (α := {k : Nat // k ≤ l[j].c.toNat}) (fun k => (fin [(0, .c (.slc (l.map Nd.cv))), (1, .c (.int .i64 j)), (5, .own 72 k.1), (6, .c (.int .i64 (cR l k.1 (j + 1) : Nat)))], fob [(72, .row 3 1 ((jW l k.1 (j + 1)).map iC))])) 200 (fun k => l[j].c.toNat - k.1) ⟨0, by omega⟩ (aM (by omega) (by simp [aY, fin_at, finA_at, upd_at, HV.men, HV.menL, HV.norm, HV.toC, HV.toCL, jW, cR]) (by simp [bB, fob_at, upd_at, none0_at, bZ, HO.men, HV.men, HV.menL, HV.norm, HV.toC, HV.toCL, jW, cR])) ?_
  rintro ⟨k, hk⟩
  have hkl := yV l k (j + 1)
  refine aB fun K hK => ?_
  refine aB fun K hK => Rg ?_
  have F := aI @Int.natCast_nonneg (aI @Int.ofNat_lt (aI hj (aI (nM hj) hkl)))
  iterate 8 refine SF ?_
  refine T2 (hK _ _ _ ?_)
  clear hK K
  refine aH (b := decide ((k : Int) < l[j].c)) rfl (fun hb => ?_) (fun hb => ?_)
  ·
   have hkc : k < l[j].c.toNat := by simp only [decide_eq_true_eq] at hb; omega
   have hkp := kT ht hj hkc
   have e : (jW l (k + 1) (j + 1)).map iC = (jW l k (j + 1)).map iC ++ [CV.int .i64 (cR l k (j + 1) : Nat)] := by rw [vT, List.map_append]; rfl
   refine aJ ?_
   refine T0 (hK _ _ _ ?_)
   clear hK K
   refine aB fun K hK => ?_
   refine aK ?_
   refine Rg ?_
   have F := hkl
   iterate 5 refine SF ?_
   refine T2 (hK _ _ _ ?_)
   clear hK K
   refine Rg ?_
   iterate 2 refine S0 ?_
   refine HS rfl rfl fun K' hK' => T5 ?_
   refine C2 (bN0 l ht _ hkp) ?_
   rintro u rfl
   refine AX (hK' _ _ ?_)
   clear hK' K'
   refine S0 ?_
   refine T4 ?_
   refine ⟨⟨k + 1, hkc⟩, aM (by omega) (by simp [aY, fin_at, finA_at, upd_at, HV.men, HV.menL, HV.norm, HV.toC, HV.toCL, e, hkl, eV]) (by simp [bB, fob_at, upd_at, none0_at, bZ, HO.men, HV.men, HV.menL, HV.norm, HV.toC, HV.toCL, e, hkl, eV]), ?_⟩
   show l[j].c.toNat - (k + 1) < l[j].c.toNat - k
   omega
  refine aX (T3 ?_)
  clear hK K
  refine AX (hK _ _ _ ?_)
  clear hK K
  refine R0 ?_
  refine aE (RT Tryz.results16 ?_)
  have hkc : k = l[j].c.toNat := by simp only [decide_eq_false_iff_not] at hb; omega
  subst hkc
  exact aF [72] (.slc ((jW l l[j].c.toNat (j + 1)).map iC)) (by simp [HV.close, fob_at, hkl, HV.norm, HV.toC, zJ, CV.denil]) (by rw [hcv])
 have F := h1_8
 iterate 9 refine SF ?_
 refine T2 (hK _ _ _ ?_)
 clear hK K
 refine CT rfl ?_
 refine R0 ?_
 refine aE (RT Tryz.results16 ?_)
 exact aF [] (.slc []) rfl (by rw [pD (.inl h1_8)]; rfl)


theorem zK (l : List Nd) (hn : ∀ n ∈ l, n.q.t.length < 2 ^ 63) : bT Tryz.prog 18 [.slc (l.map Nd.cv)] (fun v => v = .slc ((iR l).map iC)) := by
 refine FW Tryz.func18 ?_
 refine R0 ?_
 refine aB fun K hK => ?_
 refine aB fun K hK => Rg ?_
 refine S0 ?_
 refine HS rfl rfl fun K' hK' => T5 ?_
 refine C1 (uA l hn) ?_
 rintro u rfl
 refine AX (hK' _ _ ?_)
 clear hK' K'
 refine S0 ?_
 refine T2 (hK _ _ _ ?_)
 clear hK K
 refine aH (b := !cZ l) rfl (fun hb => ?_) (fun hb => ?_)
 ·
  refine R0 ?_
  refine aE (RT Tryz.results18 ?_)
  exact aF [] (.slc []) rfl (by rw [tG (by simpa using hb)]; rfl)
 have h8 : cZ l = true := by simpa using hb
 have ht := kQ h8
 have hlv := pE h8
 have hl := ht.len
 clear hb
 refine aJ ?_
 refine T0 (hK _ _ _ ?_)
 clear hK K
 refine R0 ?_
 refine aB fun K hK => ?_
 refine R0 ?_
 refine aK ?_
 refine mM 3 0 3 1 rfl rfl rfl rfl ?_
 refine bE (α := {i : Nat // i ≤ l.length}) (fun i => (fin [(3, .own 32 (fX 0 (l.take i.1)).length), (9, .c (.slc (l.map Nd.cv))), (10, .c (.int .i64 l.length)), (11, .c (.int .i64 i.1))], fob [(32, .row 3 1 ((fX 0 (l.take i.1)).map iC))])) 200 (fun i => l.length - i.1) ⟨0, by omega⟩ (aM (by omega) (by simp [aY, fin_at, finA_at, upd_at, HV.men, HV.menL, HV.norm, HV.toC, HV.toCL, fX]) (by simp [bB, fob_at, upd_at, none0_at, bZ, HO.men, HV.men, HV.menL, HV.norm, HV.toC, HV.toCL, fX])) ?_
 rintro ⟨i, hi⟩
 have hfl : (fX 0 (l.take i)).length ≤ i := by rw [kU]; have := bV9 (l.take i); simp at this; omega
 refine R0 ?_
 refine aB fun K hK => ?_
 refine aH (b := decide ((i : Int) < l.length)) rfl (fun hb => ?_) (fun hb => ?_)
 ·
  have hlt : i < l.length := by simpa using hb
  have e := aQ2 hlt
  clear hb
  refine aJ ?_
  refine T0 (hK _ _ _ ?_)
  clear hK K
  refine aB fun K hK => ?_
  refine aK ?_
  refine aB fun K hK => Rg ?_
  have F := aI @Int.natCast_nonneg (aI @Int.ofNat_lt (aI hlt (nM hlt)))
  iterate 6 refine SF ?_
  refine T2 (hK _ _ _ ?_)
  clear hK K
  refine R0 ?_
  refine aH (b := _) rfl (fun hb => ?_) (fun hb => ?_)
  ·
   rw [if_pos (by simpa using hb)] at e
   refine Rg ?_
   iterate 5 refine S0 ?_
   refine T2 (hK _ _ _ ?_)
   clear hK K
   refine aL (by kernel_rfl) ?_
   simp only [↓sP, sA, tyS, simprocAttr, cK ((i : Int) + 1) (by omega)]
   refine ⟨⟨i + 1, hlt⟩, aM (by omega) (by simp [aY, fin_at, finA_at, upd_at, HV.men, HV.menL, HV.norm, HV.toC, HV.toCL, e, iC]) (by simp [bB, fob_at, upd_at, none0_at, bZ, HO.men, HV.men, HV.menL, HV.norm, HV.toC, HV.toCL, e, iC]), ?_⟩
   show l.length - (i + 1) < l.length - i
   omega
  rw [if_neg (by simpa using hb)] at e
  refine aJ ?_
  refine T0 (hK _ _ _ ?_)
  clear hK K
  refine aL (by kernel_rfl) ?_
  simp only [↓sP, sA, tyS, simprocAttr, cK ((i : Int) + 1) (by omega)]
  refine ⟨⟨i + 1, hlt⟩, aM (by omega) (by simp [aY, fin_at, finA_at, upd_at, HV.men, HV.menL, HV.norm, HV.toC, HV.toCL, e]) (by simp [bB, fob_at, upd_at, none0_at, bZ, HO.men, HV.men, HV.menL, HV.norm, HV.toC, HV.toCL, e]), ?_⟩
  show l.length - (i + 1) < l.length - i
  omega
 refine aX (T3 ?_)
 clear hK K
 refine AX (hK _ _ _ ?_)
 clear hK K
 refine R0 ?_
 refine aE (RT Tryz.results18 ?_)
 have hei : i = l.length := by simp only [decide_eq_false_iff_not] at hb; omega
 subst hei
 rw [List.take_length]
 exact aF [32] (.slc ((fX 0 l).map iC)) (by simp [HV.close, fob_at, HV.norm, HV.toC, zJ, CV.denil]) (by rw [hlv])


end Go.Proofs.YtlldglbooaefhaaGreatDoor

namespace Go.Proofs.YtlldglbooaefhaaGreatDoor
open Go Go.Hl Go.Pl
set_option maxRecDepth 10000
set_option maxHeartbeats 16000000

end Go.Proofs.YtlldglbooaefhaaGreatDoor

namespace Go.Proofs.YtlldglbooaefhaaGreatDoor
open Go Go.Hl Go.Pl
set_option maxRecDepth 10000
set_option maxHeartbeats 16000000

def bC (b : Bool) : CV := .bool b
end Go.Proofs.YtlldglbooaefhaaGreatDoor

namespace Go.Proofs.YtlldglbooaefhaaGreatDoor
open Go Go.Hl Go.Pl

theorem nJ {α : Type} {f : α → CV} {Q : α → Prop} : ∀ (l : List CV), (∀ x ∈ l, ∃ y, x = f y ∧ Q y) → ∃ m : List α, l = m.map f ∧ ∀ y ∈ m, Q y
 | [], _ => ⟨[], rfl, by simp⟩
 | x :: l, h => by
  obtain ⟨y, rfl, hy⟩ := h x (by simp)
  obtain ⟨m, rfl, hm⟩ := nJ l (fun x hx => h x (by simp [hx]))
  exact ⟨y :: m, rfl, fun z hz => by rcases List.mem_cons.1 hz with rfl | hz; exact hy; exact hm z hz⟩
theorem cD9 {c : CV} (h : HasTy Tryz.prog 38 c) : ∃ q : Rq, c = q.cv ∧ q.t.length ≤ maxLen := by
 obtain ⟨l, rfl, hn, hl⟩ := h.of_struct Tryz.underlying38
 match l, hn, hl with
 | [a, b, c, d], _, hl =>
  obtain ⟨k, rfl, _⟩ := (hl 0 _ a rfl rfl).of_int Tryz.underlying3
  obtain ⟨n, rfl, _⟩ := (hl 1 _ b rfl rfl).of_int Tryz.underlying2
  obtain ⟨m, rfl, _⟩ := (hl 2 _ c rfl rfl).of_int Tryz.underlying2
  obtain ⟨w, rfl, hw⟩ := (hl 3 _ d rfl rfl).of_str Tryz.underlying9
  exact ⟨⟨k, n, m, w⟩, rfl, hw⟩
theorem cE0 {c : CV} (h : HasTy Tryz.prog 40 c) : ∃ n : Nd, c = n.cv ∧ n.q.t.length ≤ maxLen := by
 obtain ⟨l, rfl, hn, hl⟩ := h.of_struct Tryz.underlying40
 match l, hn, hl with
 | [a, b, c, d], _, hl =>
  obtain ⟨k, rfl, _⟩ := (hl 0 _ a rfl rfl).of_int Tryz.underlying3
  obtain ⟨n, rfl, _⟩ := (hl 1 _ b rfl rfl).of_int Tryz.underlying3
  obtain ⟨m, rfl, _⟩ := (hl 2 _ c rfl rfl).of_int Tryz.underlying3
  obtain ⟨q, rfl, hw⟩ := cD9 (hl 3 _ d rfl rfl)
  exact ⟨⟨k, n, m, q⟩, rfl, hw⟩
theorem bZ2 {c : CV} (h : HasTy Tryz.prog 22 c) : ∃ l : List Nd, c = .slc (l.map Nd.cv) ∧ (∀ n ∈ l, n.q.t.length ≤ maxLen) ∧ l.length ≤ maxLen := by
 obtain ⟨l, rfl, hl, hn⟩ := h.of_slc Tryz.underlying22
 obtain ⟨m, rfl, hm⟩ := nJ (f := Nd.cv) (Q := fun n => n.q.t.length ≤ maxLen) l (fun x hx => cE0 (hl x hx))
 exact ⟨m, rfl, hm, by simpa using hn⟩
theorem cE1 {c : CV} (h : HasTy Tryz.prog 54 c) : ∃ r : Pr, c = r.cv ∧ r.a.length ≤ maxLen ∧ ∀ n ∈ r.t, n.q.t.length ≤ maxLen := by
 obtain ⟨l, rfl, hn, hl⟩ := h.of_struct Tryz.underlying54
 match l, hn, hl with
 | [a, b, c, d, e], _, hl =>
  obtain ⟨a, rfl, ha⟩ := (hl 0 _ a rfl rfl).of_str Tryz.underlying9
  obtain ⟨b, rfl, _⟩ := (hl 1 _ b rfl rfl).of_str Tryz.underlying9
  obtain ⟨c, rfl, _⟩ := (hl 2 _ c rfl rfl).of_str Tryz.underlying9
  obtain ⟨g, rfl, _⟩ := (hl 3 _ d rfl rfl).of_int Tryz.underlying2
  obtain ⟨t, rfl, ht, _⟩ := bZ2 (hl 4 _ e rfl rfl)
  exact ⟨⟨a, b, c, g, t⟩, rfl, ha, ht⟩
theorem cE2 {c : CV} (h : HasTy Tryz.prog 45 c) : ∃ p : Po, c = p.cv ∧ p.n.length ≤ maxLen ∧ p.r.length ≤ maxLen ∧ ∀ r ∈ p.r, r.a.length ≤ maxLen ∧ ∀ n ∈ r.t, n.q.t.length ≤ maxLen := by
 obtain ⟨l, rfl, hn, hl⟩ := h.of_struct Tryz.underlying45
 match l, hn, hl with
 | [a, b, c], _, hl =>
  obtain ⟨a, rfl, ha⟩ := (hl 0 _ a rfl rfl).of_str Tryz.underlying9
  obtain ⟨v, rfl, _⟩ := (hl 1 _ b rfl rfl).of_int Tryz.underlying2
  obtain ⟨l2, rfl, h2, n2⟩ := (hl 2 _ c rfl rfl).of_slc Tryz.underlying43
  obtain ⟨m, rfl, hm⟩ := nJ (f := Pr.cv) (Q := fun r => r.a.length ≤ maxLen ∧ ∀ n ∈ r.t, n.q.t.length ≤ maxLen) l2 (fun x hx => cE1 (h2 x hx))
  exact ⟨⟨a, v, m⟩, rfl, ha, by simpa using n2, hm⟩
theorem own : ownKnob Tryz.prog.godebug = none := by kernel_rfl
theorem kids : Kids Tryz.prog (· < Tryz.prog.types.size) := kids_rows (by kernel_rfl) (by kernel_rfl)
theorem aR1 : ∀ t e, t < Tryz.prog.types.size → Tryz.prog.underlying t = some (.slice e) → 0 < Tryz.prog.cellsOf e := slices_full_of Tryz.prog (by kernel_rfl)
end Go.Proofs.YtlldglbooaefhaaGreatDoor

namespace Go.Proofs.YtlldglbooaefhaaGreatDoor
open Go Go.Hl Go.Pl
set_option maxRecDepth 10000
set_option maxHeartbeats 16000000

theorem bW4 {α : Type} (l : List (List UInt8)) (j : Nat) (p : List UInt8) (r : List (List UInt8)) (h : l.drop j = p :: r) : ∃ hj : j < (l.map fun p => [CV.slc (p.map u8)]).length, (l.map fun p => [CV.slc (p.map u8)])[j] = [CV.slc (p.map u8)] ∧ l.drop (j + 1) = r := by
 have hj : j < l.length := by
  rcases Nat.lt_or_ge j l.length with h' | h'
  ·
   exact h'
  rw [List.drop_eq_nil_of_le h'] at h; cases h
 have h1 := List.drop_eq_getElem_cons hj
 rw [h1] at h
 cases h
 exact ⟨by simpa using hj, by simp, rfl⟩

theorem aR2 (l : List UInt8) (c : UInt8) (hl : l.length < 2 ^ 40) : aC1 Tryz.prog 126 [(47, .slc [u8 c]), (47, .slc (l.map u8)), (3, .int .i64 0)] ((aQ c l).map fun p => [.slc (p.map u8)]) := by
 refine yQ Tryz.func126 rfl (by kernel_rfl) (Nat.le_of_ble_eq_true rfl) rfl fun L J hS hY => ?_
 have e0 : jN [(47, CV.slc [u8 c]), (47, .slc (l.map u8)), (3, .int .i64 0)] = fob [(0, .box 47 (.c (.slc [u8 c]))), (1, .box 47 (.c (.slc (l.map u8)))), (2, .box 3 (.c (.int .i64 0)))] := by
  funext i
  match i with
  | 0 => rfl
  | 1 => rfl
  | 2 => rfl
  | i + 3 => simp [jN, fob, upd]
 have e1 : gF (List.range [((47 : Nat), CV.slc [u8 c]), (47, .slc (l.map u8)), (3, .int .i64 0)].length) = [.ptr 0 0, .ptr 1 0, .ptr 2 0] := rfl
 rw [e0, e1]
 refine eK fun K hK => ?_
 refine eK fun K1 hK1 => mZ hS rfl (aL (by kernel_rfl) ?_)
 simp only [sR, simprocAttr]
 have F := rI
 iterate 3 refine SF ?_
 simp only [sE, ↓reduceIte, simprocAttr, rI]
 refine hK1 _ _ _ _ _ ?_
 clear hK1 K1
 refine jE (b := false) rfl (fun hb => by cases hb) (fun _ => ?_)
 refine nA ?_
 simp only [sE, ↓reduceIte, simprocAttr, rI]
 refine hK _ _ _ _ _ ?_
 clear hK K
 refine eK fun K hK => ?_
 refine oC ?_
 refine aJ5 (α := {y : Nat × List UInt8 // (aQ c l).drop y.1 = aQ c y.2 ∧ y.2.length ≤ l.length}) hS (fun y => (fin [(0, .opq (.func (.yield L) #[] #[])), (1, .ptr 0 0), (2, .ptr 1 0), (3, .ptr 2 0)], fob [(0, .box 47 (.c (.slc [u8 c]))), (1, .box 47 (.c (.slc (y.1.2.map u8)))), (2, .box 3 (.c (.int .i64 0)))])) (fun y => y.1.1) 100 (fun y => y.1.2.length) ⟨(0, l), rfl, Nat.le_refl _⟩ rfl (fF) rfl ?_
 rintro ⟨⟨j, rest⟩, hsp, hle⟩
 simp only at hsp hle
 refine oC ?_
 refine eK fun K1 hK1 => mZ hS rfl (aL (by kernel_rfl) ?_)
 simp only [sR, simprocAttr]
 iterate 2 refine SF ?_
 have F := aI rI @denilL_u8
 refine HS rfl rfl fun K' hK' => T6 ?_
 refine C2 (yT rest c) ?_
 rintro u rfl
 refine AX (hK' _ _ ?_)
 clear hK' K'
 have F := rI
 refine SF ?_
 simp only [sE, ↓reduceIte, simprocAttr, rI]
 refine hK1 _ _ _ _ _ ?_
 clear hK1 K1
 refine eK fun K1 hK1 => ?_
 refine eK fun K2 hK2 => mZ hS rfl (aL (by kernel_rfl) ?_)
 simp only [sR, simprocAttr]
 iterate 2 refine SF ?_
 simp only [sE, ↓reduceIte, simprocAttr, rI]
 refine hK2 _ _ _ _ _ ?_
 clear hK2 K2
 refine jE (b := decide (dG rest c < 0)) rfl (fun hb => ?_) (fun hb => ?_)
 ·
  -- the last piece
  have hn : dG rest c < 0 := by simpa using hb
  rw [mS hn] at hsp
  obtain ⟨hj, hx, hd⟩ := bW4 (α := Nat) _ _ _ _ hsp
  refine aJ4 ?_
  simp only [sE, ↓reduceIte, simprocAttr, rI]
  clear hK1 K1
  refine hK _ _ _ _ _ ?_
  clear hK K
  have htk : List.take rest.length (rest.map u8) = rest.map u8 := List.take_of_length_le (by simp)
  refine rS (l := L) 7 hS hY rfl (by kernel_rfl) (by decide) ?_
  simp only [sR, List.range', simprocAttr]
  have F := aI rI @List.length_map.{0,0}
  iterate 6 refine SF ?_
  refine S0 ?_ (e := fun _ h_ => by simp only [sH, ↓sP, sA, tyS, simprocAttr, rI, htk, List.length_map, ↓hslice3.eq_def, Int.natCast_nonneg, mO, List.drop_zero, Nat.sub_zero, Int.le_refl, Int.toNat_zero]; exact AX h_)
  rw [hlex]
  refine ⟨_, _, _, hj, rfl, rfl, rfl, rfl, rfl, ?_, ?_, ?_⟩
  ·
   rw [hx]; rfl
  ·
   simp only [sR, List.range', simprocAttr]
   rw [hlex]
   refine ⟨by simp, fun _ => ?_⟩
   have := List.drop_eq_nil_iff.1 hd
   simp only [List.length_map] at hj ⊢
   omega
  simp only [sR, List.range', simprocAttr]
  rw [hlex]
  exact ⟨by simp, fun h => by cases h⟩
 -- a piece
 have hn : ¬ dG rest c < 0 := by simpa using hb
 obtain ⟨k, hk, hkl, hsp2⟩ := dS hn
 rw [hk]
 rw [hsp2] at hsp
 obtain ⟨hj, hx, hd⟩ := bW4 (α := Nat) _ _ _ _ hsp
 have hkm : min k rest.length = k := by omega
 have ek : List.take k (rest.map u8) = (rest.take k).map u8 := List.map_take.symm
 have htk : List.take k ((rest.take k).map u8) = (rest.take k).map u8 := List.take_of_length_le (by simp; omega)
 have hw1 : IntKind.i64.wrap ((k : Int) + 1) = ((k + 1 : Nat) : Int) := by rw [IntWalk.i64_in _ (by omega)]; rfl
 have hkl1 : k + 1 ≤ rest.length := hkl
 have edr : List.take (rest.length - (k + 1)) (List.drop (k + 1) (rest.map u8)) = (rest.drop (k + 1)).map u8 := by rw [List.map_drop, List.take_of_length_le (by simp)]
 refine nA ?_
 simp only [sE, ↓reduceIte, simprocAttr, rI]
 refine hK1 _ _ _ _ _ ?_
 clear hK1 K1
 refine eK fun K1 hK1 => mZ hS rfl (aL (by kernel_rfl) ?_)
 simp only [sR, simprocAttr]
 iterate 6 refine S0 ?_ (e := fun _ h_ => by simp only [sH, ↓sP, sA, tyS, simprocAttr, rI, ek, List.length_map, Int.natCast_nonneg, mO, Int.add_zero, Int.ofNat_le, Nat.le_of_lt hkl, List.drop_zero, Nat.sub_zero, show IntKind.i64.wrap (k : Int) = (k : Int) from IntWalk.i64_in _ (by omega)]; exact AX h_)
 simp only [sE, ↓reduceIte, simprocAttr, rI]
 refine hK1 _ _ _ _ _ ?_
 clear hK1 K1
 refine eK fun K1 hK1 => ?_
 refine eK fun K2 hK2 => rS (l := L) 7 hS hY rfl (by kernel_rfl) (by decide) ?_
 simp only [sR, List.range', simprocAttr]
 have F := aI rI (aI @List.length_map.{0,0} (aI @List.length_take.{0} hkm))
 iterate 6 refine SF ?_
 refine S0 ?_ (e := fun _ h_ => by simp only [sH, ↓sP, sA, tyS, simprocAttr, rI, htk, List.length_map, List.length_take, hkm, ↓hslice3.eq_def, Int.natCast_nonneg, mO, List.drop_zero, Nat.sub_zero, Int.le_refl, Int.toNat_zero]; exact AX h_)
 rw [hlex]
 refine ⟨_, _, _, hj, rfl, rfl, rfl, rfl, rfl, ?_, ?_, ?_⟩
 ·
  rw [hx]; rfl
 ·
  simp only [sR, List.range', simprocAttr]
  have F := rI
  refine SF ?_
  simp only [sE, ↓reduceIte, simprocAttr, rI]
  refine hK2 _ _ _ _ _ ?_
  clear hK2 K2
  refine jE (b := false) rfl (fun hb => by cases hb) (fun _ => ?_)
  refine nA ?_
  simp only [sE, ↓reduceIte, simprocAttr, rI]
  refine hK1 _ _ _ _ _ ?_
  clear hK1 K1
  refine mZ hS rfl (aL (by kernel_rfl) ?_)
  simp only [sR, simprocAttr]
  have F := aI rI (aI edr (aI hw1 (aI @List.length_map.{0,0} (aI @Int.natCast_nonneg (aI @mO (aI @Int.ofNat_le (aI hkl1 @denilL_u8)))))))
  iterate 7 refine SF ?_
  simp only [sE, ↓reduceIte, simprocAttr, rI]
  refine ⟨⟨(j + 1, rest.drop (k + 1)), hd, by simp; omega⟩, fF, trivial, rfl, ?_⟩
  show (rest.drop (k + 1)).length < rest.length
  simp; omega
 simp only [sR, List.range', simprocAttr]
 have F := rI
 refine SF ?_
 simp only [sE, ↓reduceIte, simprocAttr, rI]
 refine hK2 _ _ _ _ _ ?_
 clear hK2 K2
 refine jE (b := true) rfl (fun _ => ?_) (fun hb => by cases hb)
 refine aU6 ?_
 simp only [sE, ↓reduceIte, simprocAttr, rI]
 exact ⟨by simp, fun h => by cases h⟩

end Go.Proofs.YtlldglbooaefhaaGreatDoor
