/- Part of a proof: walks of functions of the program, by contracts, and the rules they use. By an AI agent. -/
import Derived.Test.YtenbfeemmpjdhaaGreatDoorPl02e
import Derived.Test.YtenbfeemmpjdhaaGreatDoorHyT5
import Derived.Test.YtenbfeemmpjdhaaGreatDoorHySb
import Derived.Test.YtenbfeemmpjdhaaGreatDoorPl11h
import Derived.Test.YtenbfeemmpjdhaaGreatDoorHyTz
set_option linter.unusedSimpArgs false
set_option linter.unusedVariables false
set_option linter.defProp false
namespace Go.Proofs.YtenbfeemmpjdhaaGreatDoor
open Go Go.Hl Go.Pl
set_option maxRecDepth 10000
set_option maxHeartbeats 16000000

theorem bC6 (l : List Qt) (hl : l.length < 2 ^ 40) (hw : ∀ q ∈ l, q.r.length < 2 ^ 63) : aW Tryz.prog 32 [.slc (l.map Qt.cv)] (fun v => v = .bool (eJ l)) := by
 refine FW Tryz.func32 ?_
 refine R0 ?_
 refine aB fun K hK => ?_
 refine R0 ?_
 refine aH ?_
 refine aU (α := {i : Nat // i ≤ l.length ∧ GoodTo kU (fun a b => slt a.r b.r) l i}) (fun i => (fin [(0, .c (.slc (l.map Qt.cv))), (5, .c (.slc (l.map Qt.cv))), (6, .c (.int .i64 l.length)), (7, .c (.int .i64 i.1))], fob [])) 100 (fun i => l.length - i.1) ⟨0, by omega, GoodTo.zero⟩ (fF) ?_
 rintro ⟨i, hi, h0⟩
 refine R0 ?_
 refine aB fun K hK => ?_
 refine aJ (b := decide ((i : Int) < l.length)) rfl (fun hb => ?_) (fun hb => ?_)
 ·
  have hlt : i < l.length := by simpa using hb
  have hi1 : i - 1 < l.length := by omega
  have hm : decide ((0 : Int) < (i : Int)) = true → IntKind.i64.wrap ((i : Int) - 1) = ((i - 1 : Nat) : Int) := fun h => by
   have : 0 < i := by simpa using h
   rw [IntWalk.i64_in _ (by omega)]; omega
  refine aG ?_
  refine T0 (hK _ _ _ ?_)
  clear hK K
  refine aB fun K hK => ?_
  refine aH ?_
  refine aB fun K hK => Rg ?_
  have F := aI @Int.natCast_nonneg (aI @Int.ofNat_lt (aI hlt (nM hlt)))
  iterate 6 refine SF ?_
  refine T2 (hK _ _ _ ?_)
  clear hK K
  refine aB fun K hK => DW [(0, [], []), (1, [], []), (2, [], []), (3, [], []), (4, [], []), (5, [], []), (6, [], []), (7, [], []), (8, [], []), (9, [], []), (10, [], []), (11, [], []), (12, [], []), (13, [], []), (14, [], []), (15, [], []), (16, [], []), (17, [], []), (18, [], []), (19, [], []), (20, [], []), (21, [], []), (22, [], []), (23, [], []), (24, [], []), (25, [], []), (26, [], []), (27, [], []), (28, [], [])] [0, 1, 3, 7, 15, 31, 63, 127, 255, 511, 1023, 2047, 4095, 8191, 16383, 32767, 65535, 131071, 262143, 262143, 786431, 2097151, 4194303, 8388607, 262143, 17039359, 67108863, 134217727, 268435455] ?_
  have F := aI hm (aI @Int.natCast_nonneg (aI @Int.ofNat_lt (aI hi1 (nM hi1))))
  iterate 2 refine WF ?_
  refine aO (g := none) rfl rfl fun K' hK' => T6 ?_
  refine C1 (aC6 l[i].r (hw _ (List.getElem_mem hlt))) ?_
  rintro u rfl
  refine AX (hK' _ _ ?_)
  clear hK' K'
  iterate 2 refine WF ?_
  refine bE 14 rfl (fun h4_14 => ?_) (fun h4_14 => ?_)
  ·
   have F := aI hm (aI @Int.natCast_nonneg (aI @Int.ofNat_lt (aI hi1 (aI (nM hi1) h4_14))))
   iterate 5 refine WF ?_
   refine bE 19 rfl (fun h4_19 => ?_) (fun h4_19 => ?_)
   ·
    have F := aI hm (aI @Int.natCast_nonneg (aI @Int.ofNat_lt (aI hi1 (aI (nM hi1) (aI h4_14 h4_19)))))
    iterate 19 refine WF ?_
    refine T2 (hK _ _ _ ?_)
    clear hK K
    refine CT rfl ?_
    refine R0 ?_
    refine aD (RT Tryz.results32 ?_)
    exact aC [] (.bool false) rfl (by rw [dC, cV hlt (by simp only [cY, h4_14, h4_19, Bool.not_true, Bool.not_false, Bool.false_and, Bool.and_false]), Bool.false_and])
   have F := aI hm (aI @Int.natCast_nonneg (aI @Int.ofNat_lt (aI hi1 (aI (nM hi1) (aI h4_14 h4_19)))))
   iterate 5 refine WF ?_
   refine bE 24 rfl (fun h4_24 => ?_) (fun h4_24 => ?_)
   ·
    have F := aI hm (aI @Int.natCast_nonneg (aI @Int.ofNat_lt (aI hi1 (aI (nM hi1) (aI h4_14 (aI h4_19 h4_24))))))
    iterate 14 refine WF ?_
    refine T2 (hK _ _ _ ?_)
    clear hK K
    refine CT rfl ?_
    refine R0 ?_
    refine aD (RT Tryz.results32 ?_)
    exact aC [] (.bool false) rfl (by rw [dC, cV hlt (by simp only [cY, h4_14, h4_19, h4_24, Bool.not_true, Bool.not_false, Bool.false_and, Bool.and_false]), Bool.false_and])
   have F := aI hm (aI @Int.natCast_nonneg (aI @Int.ofNat_lt (aI hi1 (aI (nM hi1) (aI h4_14 (aI h4_19 h4_24))))))
   iterate 3 refine WF ?_
   refine bE 28 rfl (fun h4_28 => ?_) (fun h4_28 => ?_)
   ·
    have F := aI hm (aI @Int.natCast_nonneg (aI @Int.ofNat_lt (aI hi1 (aI (nM hi1) (aI h4_14 (aI h4_19 (aI h4_24 h4_28)))))))
    iterate 11 refine WF ?_
    refine bE 38 rfl (fun h4_38 => ?_) (fun h4_38 => ?_)
    ·
     simp only [h4_38]
     refine T2 (hK _ _ _ ?_)
     clear hK K
     refine CT rfl ?_
     refine R0 ?_
     refine aD (RT Tryz.results32 ?_)
     obtain ⟨j, rfl⟩ : ∃ j, i = j + 1 := ⟨i - 1, by simp at h4_28; omega⟩
     exact aC [] (.bool false) rfl (by rw [dC, kX (i := j) hlt (by simpa using h4_38), Bool.false_and])
    simp only [h4_38]
    refine T2 (hK _ _ _ ?_)
    clear hK K
    refine CF rfl ?_
    refine aG ?_
    refine T0 (hK _ _ _ ?_)
    clear hK K
    refine aL (by kernel_rfl) ?_
    refine TQ (bK i) ?_
    obtain ⟨j, rfl⟩ : ∃ j, i = j + 1 := ⟨i - 1, by simp at h4_28; omega⟩
    refine ⟨⟨j + 1 + 1, hlt, h0.succ hlt (by simp only [cY, h4_14, h4_19, h4_24, h4_28, h4_38]; rfl) (by simpa using h4_38)⟩, fF, ?_⟩
    show l.length - (j + 1 + 1) < l.length - (j + 1)
    omega
   have F := aI hm (aI @Int.natCast_nonneg (aI @Int.ofNat_lt (aI hi1 (aI (nM hi1) (aI h4_14 (aI h4_19 (aI h4_24 h4_28)))))))
   iterate 11 refine WF ?_
   refine T2 (hK _ _ _ ?_)
   clear hK K
   refine CF rfl ?_
   refine aG ?_
   refine T0 (hK _ _ _ ?_)
   clear hK K
   refine aL (by kernel_rfl) ?_
   refine TQ (bK i) ?_
   obtain rfl : i = 0 := by simp at h4_28; omega
   refine ⟨⟨1, hlt, GoodTo.one hlt (by simp only [cY, h4_14, h4_19, h4_24, h4_28]; rfl)⟩, fF, ?_⟩
   show l.length - 1 < l.length - 0
   omega
  have F := aI hm (aI @Int.natCast_nonneg (aI @Int.ofNat_lt (aI hi1 (aI (nM hi1) h4_14))))
  iterate 24 refine WF ?_
  refine T2 (hK _ _ _ ?_)
  clear hK K
  refine CT rfl ?_
  refine R0 ?_
  refine aD (RT Tryz.results32 ?_)
  exact aC [] (.bool false) rfl (by rw [dC, cV hlt (by simp only [cY, h4_14, Bool.not_true, Bool.not_false, Bool.false_and, Bool.and_false]), Bool.false_and])
 refine aS (T3 ?_)
 clear hK K
 refine AX (hK _ _ _ ?_)
 clear hK K
 refine aB fun K hK => Rg ?_
 iterate 4 refine S0 ?_
 refine T2 (hK _ _ _ ?_)
 clear hK K
 refine aD (RT Tryz.results32 ?_)
 have hei : i = l.length := by simp at hb; omega
 subst hei
 refine aC [] (.bool _) rfl ?_
 rw [dC, h0.all, Bool.true_and]
 congr 1
 exact decide_eq_decide.2 (by omega)


theorem vT (l : List Rv) (hl : l.length < 2 ^ 40) : aW Tryz.prog 34 [.slc (l.map Rv.cv)] (fun v => v = .bool (gO l)) := by
 refine FW Tryz.func34 ?_
 refine R0 ?_
 refine aB fun K hK => ?_
 refine R0 ?_
 refine aH ?_
 refine aU (α := {i : Nat // i ≤ l.length ∧ GoodTo (fun x => inN x.t) (fun a b => dlt a.k b.k) l i}) (fun i => (fin [(0, .c (.slc (l.map Rv.cv))), (5, .c (.slc (l.map Rv.cv))), (6, .c (.int .i64 l.length)), (7, .c (.int .i64 i.1))], fob [])) 100 (fun i => l.length - i.1) ⟨0, by omega, GoodTo.zero⟩ (fF) ?_
 rintro ⟨i, hi, h0⟩
 refine R0 ?_
 refine aB fun K hK => ?_
 refine aJ (b := decide ((i : Int) < l.length)) rfl (fun hb => ?_) (fun hb => ?_)
 ·
  have hlt : i < l.length := by simpa using hb
  have hi1 : i - 1 < l.length := by omega
  have hm : decide ((0 : Int) < (i : Int)) = true → IntKind.i64.wrap ((i : Int) - 1) = ((i - 1 : Nat) : Int) := fun h => by
   have : 0 < i := by simpa using h
   rw [IntWalk.i64_in _ (by omega)]; omega
  refine aG ?_
  refine T0 (hK _ _ _ ?_)
  clear hK K
  refine aB fun K hK => ?_
  refine aH ?_
  refine aB fun K hK => Rg ?_
  have F := aI @Int.natCast_nonneg (aI @Int.ofNat_lt (aI hlt (nM hlt)))
  iterate 6 refine SF ?_
  refine T2 (hK _ _ _ ?_)
  clear hK K
  refine aB fun K hK => DW [(0, [], []), (1, [], []), (2, [], []), (3, [], []), (4, [], []), (5, [], []), (6, [], []), (7, [], []), (8, [], []), (9, [], []), (10, [], []), (11, [], []), (12, [], []), (13, [], []), (14, [], []), (15, [], []), (16, [], []), (17, [], []), (18, [], []), (19, [], [])] [0, 1, 3, 7, 15, 31, 63, 127, 255, 255, 767, 2047, 4095, 8191, 255, 16639, 65535, 131071, 262143, 524287] ?_
  have F := aI hm (aI @Int.natCast_nonneg (aI @Int.ofNat_lt (aI hi1 (nM hi1))))
  iterate 2 refine WF ?_
  refine aO (g := none) rfl rfl fun K' hK' => T6 ?_
  refine C2 (kC 0 l[i].t) ?_
  rintro u rfl
  refine AX (hK' _ _ ?_)
  clear hK' K'
  iterate 2 refine WF ?_
  refine bE 14 rfl (fun h4_14 => ?_) (fun h4_14 => ?_)
  ·
   have F := aI hm (aI @Int.natCast_nonneg (aI @Int.ofNat_lt (aI hi1 (aI (nM hi1) h4_14))))
   iterate 3 refine WF ?_
   refine bE 18 rfl (fun h4_18 => ?_) (fun h4_18 => ?_)
   ·
    have F := aI hm (aI @Int.natCast_nonneg (aI @Int.ofNat_lt (aI hi1 (aI (nM hi1) (aI h4_14 h4_18)))))
    iterate 8 refine WF ?_
    refine aO (g := some (19, true)) rfl rfl fun K' hK' => T6 ?_
    refine C2 (aL7 l[i - 1].k l[i].k) ?_
    rintro u rfl
    refine AX (hK' _ _ ?_)
    clear hK' K'
    iterate 3 refine WF ?_
    refine bE 29 rfl (fun h4_29 => ?_) (fun h4_29 => ?_)
    ·
     simp only [h4_29]
     refine T2 (hK _ _ _ ?_)
     clear hK K
     refine CT rfl ?_
     refine R0 ?_
     refine aD (RT Tryz.results34 ?_)
     obtain ⟨j, rfl⟩ : ∃ j, i = j + 1 := ⟨i - 1, by simp at h4_18; omega⟩
     exact aC [] (.bool false) rfl (by rw [iH, kX (i := j) hlt (by rw [sX] at h4_29; simpa using h4_29), Bool.false_and])
    simp only [h4_29]
    refine T2 (hK _ _ _ ?_)
    clear hK K
    refine CF rfl ?_
    refine aG ?_
    refine T0 (hK _ _ _ ?_)
    clear hK K
    refine aL (by kernel_rfl) ?_
    refine TQ (bK i) ?_
    obtain ⟨j, rfl⟩ : ∃ j, i = j + 1 := ⟨i - 1, by simp at h4_18; omega⟩
    refine ⟨⟨j + 1 + 1, hlt, h0.succ hlt h4_14 (by rw [sX] at h4_29; simpa using h4_29)⟩, fF, ?_⟩
    show l.length - (j + 1 + 1) < l.length - (j + 1)
    omega
   have F := aI hm (aI @Int.natCast_nonneg (aI @Int.ofNat_lt (aI hi1 (aI (nM hi1) (aI h4_14 h4_18)))))
   iterate 12 refine WF ?_
   refine T2 (hK _ _ _ ?_)
   clear hK K
   refine CF rfl ?_
   refine aG ?_
   refine T0 (hK _ _ _ ?_)
   clear hK K
   refine aL (by kernel_rfl) ?_
   refine TQ (bK i) ?_
   obtain rfl : i = 0 := by simp at h4_18; omega
   refine ⟨⟨1, hlt, GoodTo.one hlt h4_14⟩, fF, ?_⟩
   show l.length - 1 < l.length - 0
   omega
  have F := aI hm (aI @Int.natCast_nonneg (aI @Int.ofNat_lt (aI hi1 (aI (nM hi1) h4_14))))
  iterate 15 refine WF ?_
  refine T2 (hK _ _ _ ?_)
  clear hK K
  refine CT rfl ?_
  refine R0 ?_
  refine aD (RT Tryz.results34 ?_)
  exact aC [] (.bool false) rfl (by rw [iH, cV hlt h4_14, Bool.false_and])
 refine aS (T3 ?_)
 clear hK K
 refine AX (hK _ _ _ ?_)
 clear hK K
 refine aB fun K hK => Rg ?_
 iterate 4 refine S0 ?_
 refine T2 (hK _ _ _ ?_)
 clear hK K
 refine aD (RT Tryz.results34 ?_)
 have hei : i = l.length := by simp at hb; omega
 subst hei
 refine aC [] (.bool _) rfl ?_
 rw [iH, h0.all, Bool.true_and]
 congr 1
 exact decide_eq_decide.2 (by omega)


theorem bT3 (k : Ky) (hk : kSz k) : aW Tryz.prog 40 [k.cv] (fun v => v = .bool (uH k)) := by
 refine FW Tryz.func40 ?_
 refine R0 ?_
 refine aB fun K hK => Rg ?_
 iterate 2 refine S0 ?_
 refine HS rfl rfl fun K' hK' => T5 ?_
 refine C1 (aP6 k.p) ?_
 rintro u rfl
 refine AX (hK' _ _ ?_)
 clear hK' K'
 refine S0 ?_
 refine aF 5 rfl (fun h1_5 => ?_) (fun h1_5 => ?_)
 ·
  have F := h1_5
  iterate 2 refine SF ?_
  refine bA (g := some (6, true)) rfl rfl fun K' hK' => T6 ?_
  refine C1 (vS k.o hk.1) ?_
  rintro u rfl
  refine AX (hK' _ _ ?_)
  clear hK' K'
  iterate 2 refine SF ?_
  refine aF 9 rfl (fun h1_9 => ?_) (fun h1_9 => ?_)
  ·
   have F := aI h1_5 h1_9
   iterate 6 refine SF ?_
   refine aF 15 rfl (fun h1_15 => ?_) (fun h1_15 => ?_)
   ·
    have F := aI h1_5 (aI h1_9 h1_15)
    iterate 6 refine SF ?_
    refine aF 21 rfl (fun h1_21 => ?_) (fun h1_21 => ?_)
    ·
     have F := aI h1_5 (aI h1_9 (aI h1_15 h1_21))
     iterate 2 refine SF ?_
     refine bA (g := some (23, true)) rfl rfl fun K' hK' => T6 ?_
     refine C1 (bC5 k.rs hk.2.1 hk.2.2) ?_
     rintro u rfl
     refine AX (hK' _ _ ?_)
     clear hK' K'
     iterate 2 refine SF ?_
     refine aF 26 rfl (fun h1_26 => ?_) (fun h1_26 => ?_)
     ·
      have F := aI h1_5 (aI h1_9 (aI h1_15 (aI h1_21 h1_26)))
      iterate 5 refine SF ?_
      refine aF 31 rfl (fun h1_31 => ?_) (fun h1_31 => ?_)
      ·
       have F := aI h1_5 (aI h1_9 (aI h1_15 (aI h1_21 (aI h1_26 h1_31))))
       iterate 7 refine SF ?_
       refine aF 38 rfl (fun h1_38 => ?_) (fun h1_38 => ?_)
       ·
        have F := aI h1_5 (aI h1_9 (aI h1_15 (aI h1_21 (aI h1_26 (aI h1_31 h1_38)))))
        iterate 5 refine SF ?_
        refine aF 43 rfl (fun h1_43 => ?_) (fun h1_43 => ?_)
        ·
         simp only [h1_43]
         refine T2 (hK _ _ _ ?_)
         clear hK K
         refine aD (RT Tryz.results40 ?_)
         exact aC [] (.bool true) rfl (by simp only [fT, eD, h1_5, h1_9, h1_15, h1_21, h1_26, h1_31, h1_38, h1_43, Bool.and_true, Bool.and_false, Bool.true_and, Bool.false_and]; try exact congrArg CV.bool h1_43.symm)
        simp only [h1_43]
        refine T2 (hK _ _ _ ?_)
        clear hK K
        refine aD (RT Tryz.results40 ?_)
        exact aC [] (.bool false) rfl (by simp only [fT, eD, h1_5, h1_9, h1_15, h1_21, h1_26, h1_31, h1_38, h1_43, Bool.and_true, Bool.and_false, Bool.true_and, Bool.false_and]; try exact congrArg CV.bool h1_43.symm)
       have F := aI h1_5 (aI h1_9 (aI h1_15 (aI h1_21 (aI h1_26 (aI h1_31 h1_38)))))
       iterate 5 refine SF ?_
       refine T2 (hK _ _ _ ?_)
       clear hK K
       refine aD (RT Tryz.results40 ?_)
       exact aC [] (.bool false) rfl (by simp only [fT, eD, h1_5, h1_9, h1_15, h1_21, h1_26, h1_31, h1_38, Bool.and_true, Bool.and_false, Bool.true_and, Bool.false_and]; try exact congrArg CV.bool h1_43.symm)
      have F := aI h1_5 (aI h1_9 (aI h1_15 (aI h1_21 (aI h1_26 h1_31))))
      iterate 12 refine SF ?_
      refine T2 (hK _ _ _ ?_)
      clear hK K
      refine aD (RT Tryz.results40 ?_)
      exact aC [] (.bool false) rfl (by simp only [fT, eD, h1_5, h1_9, h1_15, h1_21, h1_26, h1_31, Bool.and_true, Bool.and_false, Bool.true_and, Bool.false_and]; try exact congrArg CV.bool h1_43.symm)
     have F := aI h1_5 (aI h1_9 (aI h1_15 (aI h1_21 h1_26)))
     iterate 17 refine SF ?_
     refine T2 (hK _ _ _ ?_)
     clear hK K
     refine aD (RT Tryz.results40 ?_)
     exact aC [] (.bool false) rfl (by simp only [fT, eD, h1_5, h1_9, h1_15, h1_21, h1_26, Bool.and_true, Bool.and_false, Bool.true_and, Bool.false_and]; try exact congrArg CV.bool h1_43.symm)
    have F := aI h1_5 (aI h1_9 (aI h1_15 h1_21))
    iterate 22 refine SF ?_
    refine T2 (hK _ _ _ ?_)
    clear hK K
    refine aD (RT Tryz.results40 ?_)
    exact aC [] (.bool false) rfl (by simp only [fT, eD, h1_5, h1_9, h1_15, h1_21, Bool.and_true, Bool.and_false, Bool.true_and, Bool.false_and]; try exact congrArg CV.bool h1_43.symm)
   have F := aI h1_5 (aI h1_9 h1_15)
   iterate 28 refine SF ?_
   refine T2 (hK _ _ _ ?_)
   clear hK K
   refine aD (RT Tryz.results40 ?_)
   exact aC [] (.bool false) rfl (by simp only [fT, eD, h1_5, h1_9, h1_15, Bool.and_true, Bool.and_false, Bool.true_and, Bool.false_and]; try exact congrArg CV.bool h1_43.symm)
  have F := aI h1_5 h1_9
  iterate 34 refine SF ?_
  refine T2 (hK _ _ _ ?_)
  clear hK K
  refine aD (RT Tryz.results40 ?_)
  exact aC [] (.bool false) rfl (by simp only [fT, eD, h1_5, h1_9, Bool.and_true, Bool.and_false, Bool.true_and, Bool.false_and]; try exact congrArg CV.bool h1_43.symm)
 have F := h1_5
 iterate 39 refine SF ?_
 refine T2 (hK _ _ _ ?_)
 clear hK K
 refine aD (RT Tryz.results40 ?_)
 exact aC [] (.bool false) rfl (by simp only [fT, eD, h1_5, Bool.and_true, Bool.and_false, Bool.true_and, Bool.false_and]; try exact congrArg CV.bool h1_43.symm)


theorem bT4 (hid : ∀ p : Pk, aW Tryz.prog 81 [p.cv] (fun v => v = dg (pid p))) (l : List Ky) (hl : l.length < 2 ^ 40) (hw : ∀ k ∈ l, kSz k) : aW Tryz.prog 33 [.slc (l.map Ky.cv)] (fun v => v = .bool (lG l)) := by
 refine FW Tryz.func33 ?_
 refine R0 ?_
 refine aB fun K hK => ?_
 refine R0 ?_
 refine aH ?_
 refine aU (α := {i : Nat // i ≤ l.length ∧ GoodTo uH (fun a b => dlt (kid a) (kid b)) l i}) (fun i => (fin [(0, .c (.slc (l.map Ky.cv))), (5, .c (.slc (l.map Ky.cv))), (6, .c (.int .i64 l.length)), (7, .c (.int .i64 i.1))], fob [])) 100 (fun i => l.length - i.1) ⟨0, by omega, GoodTo.zero⟩ (fF) ?_
 rintro ⟨i, hi, h0⟩
 refine R0 ?_
 refine aB fun K hK => ?_
 refine aJ (b := decide ((i : Int) < l.length)) rfl (fun hb => ?_) (fun hb => ?_)
 ·
  have hlt : i < l.length := by simpa using hb
  have hi1 : i - 1 < l.length := by omega
  have hm : decide ((0 : Int) < (i : Int)) = true → IntKind.i64.wrap ((i : Int) - 1) = ((i - 1 : Nat) : Int) := fun h => by
   have : 0 < i := by simpa using h
   rw [IntWalk.i64_in _ (by omega)]; omega
  have hk := hw _ (List.getElem_mem hlt)
  refine aG ?_
  refine T0 (hK _ _ _ ?_)
  clear hK K
  refine aB fun K hK => ?_
  refine aH ?_
  refine aB fun K hK => Rg ?_
  have F := aI @Int.natCast_nonneg (aI @Int.ofNat_lt (aI hlt (nM hlt)))
  iterate 6 refine SF ?_
  refine T2 (hK _ _ _ ?_)
  clear hK K
  refine aB fun K hK => ?_
  refine aB fun K hK => Rg ?_
  iterate 2 refine S0 ?_
  refine HS rfl rfl fun K' hK' => T5 ?_
  refine C1 (bA3 l[i].p) ?_
  rintro u rfl
  refine AX (hK' _ _ ?_)
  clear hK' K'
  iterate 2 refine S0 ?_
  refine aF 14 rfl (fun h4_14 => ?_) (fun h4_14 => ?_)
  ·
   have F := h4_14
   iterate 2 refine SF ?_
   refine bA (g := some (16, false)) rfl rfl fun K' hK' => T6 ?_
   refine C1 (aC6 l[i].o hk.1) ?_
   rintro u rfl
   refine AX (hK' _ _ ?_)
   clear hK' K'
   iterate 3 refine SF ?_
   refine aF 19 rfl (fun h4_19 => ?_) (fun h4_19 => ?_)
   ·
    have F := aI h4_14 h4_19
    iterate 6 refine SF ?_
    refine aF 26 rfl (fun h4_26 => ?_) (fun h4_26 => ?_)
    ·
     have F := aI h4_14 (aI h4_19 h4_26)
     iterate 11 refine SF ?_
     refine T2 (hK _ _ _ ?_)
     clear hK K
     refine CT rfl ?_
     refine R0 ?_
     refine aD (RT Tryz.results33 ?_)
     exact aC [] (.bool false) rfl (by rw [dK, cV hlt (by simp only [dR, h4_14, h4_19, h4_26, Bool.not_true, Bool.not_false, Bool.false_and, Bool.and_false]), Bool.false_and])
    have F := aI h4_14 (aI h4_19 h4_26)
    iterate 6 refine SF ?_
    refine aF 32 rfl (fun h4_32 => ?_) (fun h4_32 => ?_)
    ·
     have F := aI h4_14 (aI h4_19 (aI h4_26 h4_32))
     iterate 5 refine SF ?_
     refine T2 (hK _ _ _ ?_)
     clear hK K
     refine CT rfl ?_
     refine R0 ?_
     refine aD (RT Tryz.results33 ?_)
     exact aC [] (.bool false) rfl (by rw [dK, cV hlt (by simp only [dR, h4_14, h4_19, h4_26, h4_32, Bool.not_true, Bool.not_false, Bool.false_and, Bool.and_false]), Bool.false_and])
    have F := aI h4_14 (aI h4_19 (aI h4_26 h4_32))
    iterate 2 refine SF ?_
    refine bA (g := some (34, false)) rfl rfl fun K' hK' => T6 ?_
    refine C1 (bM3 l[i].rs hk.2.1 hk.2.2) ?_
    rintro u rfl
    refine AX (hK' _ _ ?_)
    clear hK' K'
    iterate 2 refine SF ?_
    refine aF 37 rfl (fun h4_37 => ?_) (fun h4_37 => ?_)
    ·
     simp only [h4_37]
     refine T2 (hK _ _ _ ?_)
     clear hK K
     refine CF rfl ?_
     refine aG ?_
     refine T0 (hK _ _ _ ?_)
     clear hK K
     refine aB fun K hK => ?_
     refine aB fun K hK => Rg ?_
     have F := aI h4_14 (aI h4_19 (aI h4_26 (aI h4_32 h4_37)))
     iterate 2 refine SF ?_
     refine HS rfl rfl fun K' hK' => T6 ?_
     refine C2 (kC 0 l[i].fr) ?_
     rintro u rfl
     refine AX (hK' _ _ ?_)
     clear hK' K'
     iterate 2 refine SF ?_
     refine aF 42 rfl (fun h6_42 => ?_) (fun h6_42 => ?_)
     ·
      have F := aI h4_14 (aI h4_19 (aI h4_26 (aI h4_32 (aI h4_37 h6_42))))
      iterate 2 refine SF ?_
      refine bA (g := some (44, false)) rfl rfl fun K' hK' => T6 ?_
      refine C2 (kC 0 l[i].un) ?_
      rintro u rfl
      refine AX (hK' _ _ ?_)
      clear hK' K'
      iterate 3 refine SF ?_
      refine aF 47 rfl (fun h6_47 => ?_) (fun h6_47 => ?_)
      ·
       have F := aI h4_14 (aI h4_19 (aI h4_26 (aI h4_32 (aI h4_37 (aI h6_42 h6_47)))))
       iterate 6 refine SF ?_
       refine aF 55 rfl (fun h6_55 => ?_) (fun h6_55 => ?_)
       ·
        simp only [h6_55]
        refine T2 (hK _ _ _ ?_)
        clear hK K
        refine CT rfl ?_
        refine R0 ?_
        refine aD (RT Tryz.results33 ?_)
        exact aC [] (.bool false) rfl (by rw [dK, cV hlt (by simp only [dR, h4_14, h4_19, h4_26, h4_32, h4_37, h6_42, h6_47, h6_55, Bool.not_true, Bool.not_false, Bool.false_and, Bool.and_false]), Bool.false_and])
       simp only [h6_55]
       refine T2 (hK _ _ _ ?_)
       clear hK K
       refine CF rfl ?_
       refine aG ?_
       refine T0 (hK _ _ _ ?_)
       clear hK K
       refine aB fun K hK => DW [(0, [], []), (1, [], []), (2, [], []), (3, [], []), (4, [], []), (5, [], []), (6, [], []), (7, [], []), (8, [], []), (10, [], []), (11, [], []), (9, [], [10, 11]), (12, [], []), (13, [], []), (14, [], []), (15, [], [])] [0, 1, 3, 7, 7, 23, 63, 127, 255, 511, 7, 1031, 4095, 8191, 16383, 32767] ?_
       iterate 3 refine W0 ?_ (e := fun _ h_ => by simp only [sH, ↓sP, sA, tyS, simprocAttr, hm, Int.natCast_nonneg, Int.ofNat_lt, hi1, aN hi1, h4_14, h4_19, h4_26, h4_32, h4_37, h6_42, h6_47, h6_55]; exact AX h_)
       refine bE 58 rfl (fun h8_58 => ?_) (fun h8_58 => ?_)
       ·
        iterate 8 refine W0 ?_ (e := fun _ h_ => by simp only [sH, ↓sP, sA, tyS, simprocAttr, hm, Int.natCast_nonneg, Int.ofNat_lt, hi1, aN hi1, h4_14, h4_19, h4_26, h4_32, h4_37, h6_42, h6_47, h6_55, h8_58]; exact AX h_)
        refine aO (g := some (59, true)) rfl rfl fun K' hK' => ?_
        simp only [sH, ↓sP, sA, tyS, simprocAttr, hm, Int.natCast_nonneg, Int.ofNat_lt, hi1, aN hi1, h4_14, h4_19, h4_26, h4_32, h4_37, h6_42, h6_47, h6_55, h8_58]
        refine C1 (hid l[i - 1].p) ?_
        rintro u rfl
        refine AX (hK' _ _ ?_)
        clear hK' K'
        refine aO (g := some (59, true)) rfl rfl fun K' hK' => ?_
        simp only [sH, ↓sP, sA, tyS, simprocAttr, hm, Int.natCast_nonneg, Int.ofNat_lt, hi1, aN hi1, h4_14, h4_19, h4_26, h4_32, h4_37, h6_42, h6_47, h6_55, h8_58]
        refine C1 (hid l[i].p) ?_
        rintro u rfl
        refine AX (hK' _ _ ?_)
        clear hK' K'
        refine aO (g := some (59, true)) rfl rfl fun K' hK' => ?_
        simp only [sH, ↓sP, sA, tyS, simprocAttr, hm, Int.natCast_nonneg, Int.ofNat_lt, hi1, aN hi1, h4_14, h4_19, h4_26, h4_32, h4_37, h6_42, h6_47, h6_55, h8_58]
        refine C2 (aL7 (pid l[i - 1].p) (pid l[i].p)) ?_
        rintro u rfl
        refine AX (hK' _ _ ?_)
        clear hK' K'
        iterate 2 refine W0 ?_ (e := fun _ h_ => by simp only [sH, ↓sP, sA, tyS, simprocAttr, hm, Int.natCast_nonneg, Int.ofNat_lt, hi1, aN hi1, h4_14, h4_19, h4_26, h4_32, h4_37, h6_42, h6_47, h6_55, h8_58]; exact AX h_)
        refine bE 71 rfl (fun h8_71 => ?_) (fun h8_71 => ?_)
        ·
         simp only [h8_71]
         refine T2 (hK _ _ _ ?_)
         clear hK K
         refine CT rfl ?_
         refine R0 ?_
         refine aD (RT Tryz.results33 ?_)
         obtain ⟨j, rfl⟩ : ∃ j, i = j + 1 := ⟨i - 1, by simp at h8_58; omega⟩
         exact aC [] (.bool false) rfl (by rw [dK, kX (i := j) hlt (by rw [sX, Bool.not_eq_true'] at h8_71; exact h8_71), Bool.false_and])
        simp only [h8_71]
        refine T2 (hK _ _ _ ?_)
        clear hK K
        refine CF rfl ?_
        refine aG ?_
        refine T0 (hK _ _ _ ?_)
        clear hK K
        refine aL (by kernel_rfl) ?_
        refine TQ (bK i) ?_
        obtain ⟨j, rfl⟩ : ∃ j, i = j + 1 := ⟨i - 1, by simp at h8_58; omega⟩
        refine ⟨⟨j + 1 + 1, hlt, h0.succ hlt (by simp only [dR, h4_14, h4_19, h4_26, h4_32, h4_37, h6_42, h6_47, h6_55, h8_58, h8_71]; rfl) (by rw [sX, Bool.not_eq_false'] at h8_71; exact h8_71)⟩, fF, ?_⟩
        show l.length - (j + 1 + 1) < l.length - (j + 1)
        omega
       iterate 13 refine W0 ?_ (e := fun _ h_ => by simp only [sH, ↓sP, sA, tyS, simprocAttr, hm, Int.natCast_nonneg, Int.ofNat_lt, hi1, aN hi1, h4_14, h4_19, h4_26, h4_32, h4_37, h6_42, h6_47, h6_55, h8_58]; exact AX h_)
       refine T2 (hK _ _ _ ?_)
       clear hK K
       refine CF rfl ?_
       refine aG ?_
       refine T0 (hK _ _ _ ?_)
       clear hK K
       refine aL (by kernel_rfl) ?_
       refine TQ (bK i) ?_
       obtain rfl : i = 0 := by simp at h8_58; omega
       refine ⟨⟨1, hlt, GoodTo.one hlt (by simp only [dR, h4_14, h4_19, h4_26, h4_32, h4_37, h6_42, h6_47, h6_55, h8_58]; rfl)⟩, fF, ?_⟩
       show l.length - 1 < l.length - 0
       omega
      have F := aI h4_14 (aI h4_19 (aI h4_26 (aI h4_32 (aI h4_37 (aI h6_42 h6_47)))))
      iterate 6 refine SF ?_
      refine T2 (hK _ _ _ ?_)
      clear hK K
      refine CT rfl ?_
      refine R0 ?_
      refine aD (RT Tryz.results33 ?_)
      exact aC [] (.bool false) rfl (by rw [dK, cV hlt (by simp only [dR, h4_14, h4_19, h4_26, h4_32, h4_37, h6_42, h6_47, Bool.not_true, Bool.not_false, Bool.false_and, Bool.and_false]), Bool.false_and])
     have F := aI h4_14 (aI h4_19 (aI h4_26 (aI h4_32 (aI h4_37 h6_42))))
     iterate 12 refine SF ?_
     refine T2 (hK _ _ _ ?_)
     clear hK K
     refine CT rfl ?_
     refine R0 ?_
     refine aD (RT Tryz.results33 ?_)
     exact aC [] (.bool false) rfl (by rw [dK, cV hlt (by simp only [dR, h4_14, h4_19, h4_26, h4_32, h4_37, h6_42, Bool.not_true, Bool.not_false, Bool.false_and, Bool.and_false]), Bool.false_and])
    simp only [h4_37]
    refine T2 (hK _ _ _ ?_)
    clear hK K
    refine CT rfl ?_
    refine R0 ?_
    refine aD (RT Tryz.results33 ?_)
    exact aC [] (.bool false) rfl (by rw [dK, cV hlt (by simp only [dR, h4_14, h4_19, h4_26, h4_32, h4_37, Bool.not_true, Bool.not_false, Bool.false_and, Bool.and_false]), Bool.false_and])
   have F := aI h4_14 h4_19
   iterate 17 refine SF ?_
   refine T2 (hK _ _ _ ?_)
   clear hK K
   refine CT rfl ?_
   refine R0 ?_
   refine aD (RT Tryz.results33 ?_)
   exact aC [] (.bool false) rfl (by rw [dK, cV hlt (by simp only [dR, h4_14, h4_19, Bool.not_true, Bool.not_false, Bool.false_and, Bool.and_false]), Bool.false_and])
  have F := h4_14
  iterate 23 refine SF ?_
  refine T2 (hK _ _ _ ?_)
  clear hK K
  refine CT rfl ?_
  refine R0 ?_
  refine aD (RT Tryz.results33 ?_)
  exact aC [] (.bool false) rfl (by rw [dK, cV hlt (by simp only [dR, h4_14, Bool.not_true, Bool.not_false, Bool.false_and, Bool.and_false]), Bool.false_and])
 refine aS (T3 ?_)
 clear hK K
 refine AX (hK _ _ _ ?_)
 clear hK K
 refine aB fun K hK => Rg ?_
 iterate 4 refine S0 ?_
 refine T2 (hK _ _ _ ?_)
 clear hK K
 refine aD (RT Tryz.results33 ?_)
 have hei : i = l.length := by simp at hb; omega
 subst hei
 refine aC [] (.bool _) rfl ?_
 rw [dK, h0.all, Bool.true_and]
 congr 1
 exact decide_eq_decide.2 (by omega)


end Go.Proofs.YtenbfeemmpjdhaaGreatDoor

namespace Go.Hl
open Go

def bW7 (P : Program) (f : FuncId) (T : TypeId) (v : CV) (args : List CV) (R : CV → Prop) : Prop :=
 HFn P f (.ptr 0 0 :: args.map .c) 1 (fob [(0, .box T (.c v))]) (fun r ob' => ∃ v', r = .tup [] ∧ ob' = fob [(0, .box T (.c v'))] ∧ R v')
theorem bC7 {ob : Ob} {r w : HV} {T : TypeId} {R : CV → Prop} (cl : List Nat) (v' : CV) (h : (r.close ob cl).norm = .tup []) (hb : ob 0 = some (.box T w)) (hw : (w.close ob cl).norm = .c v') (h0 : 0 ∉ cl) (hR : R v') :
  oS 1 r ob (fun r ob' => ∃ v', r = .tup [] ∧ ob' = fob [(0, .box T (.c v'))] ∧ R v') := by
 refine ⟨cl, id, .tup [], fob [(0, .box T (.c v'))], ⟨v', rfl, rfl, hR⟩, by rw [h]; simp only [HV.ren, HV.renL], fun _ _ => rfl, fun _ _ _ _ h => h, by simp [HV.men, HV.menL], fun j o ho => ?_⟩
 by_cases e : j = 0
 ·
  subst e
  simp only [fob_at, if_true, Option.some.injEq] at ho
  subst ho
  refine ⟨by omega, by simp [HO.men, HV.men], h0, .box T w, hb, ?_⟩
  simp only [hw]
  rfl
 ·
  simp [fob_at, fob_nil, e] at ho

theorem zA {P : Program} {av : List Nat} {f : FuncId} {ob : Ob} {nid id : Nat} {K : HV → Ob → Prop} {T : TypeId} {v : CV} {args : List CV} {R : CV → Prop} (h : bW7 P f T v args R) (hid : ob id = some (.box T (.c v))) (hav : id ∉ av)
  (hfree : ob nid = none ∧ ob (nid + 1) = none ∧ ob (nid + 2) = none ∧ ob (nid + 3) = none) (hK : ∀ v', R v' → K (.tup []) (upd ob id (some (.box T (.c v'))))) :
  HCall P av f (.ptr id 0 :: args.map .c) ob nid K := by
 refine ⟨[id], .ptr 0 0 :: args.map .c, _, _, h, fY T v args, ⟨by simp, by simpa using hav⟩, ?_, fun j o hj => ?_, fun r lob' hR _ => ?_⟩
 ·
  simp only [HV.renL, HV.ren, HV.renL_c]
  rfl
 ·
  by_cases e : j = 0
  ·
   subst e
   simp only [fob_at, if_true, Option.some.injEq] at hj
   subst hj
   simpa [HO.ren, HV.ren] using hid
  ·
   simp [fob_at, fob_nil, e] at hj
 ·
  obtain ⟨v', rfl, rfl, hR⟩ := hR
  have e : bD ob [id] nid (fob [(0, .box T (.c v'))]) = upd ob id (some (.box T (.c v'))) := by
   funext i
   by_cases e : i = id
   ·
    subst e
    simp only [bD, aR, List.findIdx?_cons, beq_self_eq_true, if_true, fob_at, Option.map_some]
    rfl
   ·
    have e' : (id == i) = false := by simp; exact fun h => e h.symm
    simp only [bD, List.findIdx?_cons, e', List.findIdx?_nil, Option.map_none, aV _ _ e]
    simp only [Bool.false_eq_true, if_false]
    split
    ·
     rename_i hr
     have h1 : [id].length + (i - nid) ≠ 0 := by simp
     rw [fob_at, if_neg h1, fob_nil]
     have : i = nid ∨ i = nid + 1 ∨ i = nid + 2 ∨ i = nid + 3 := by omega
     rcases this with rfl | rfl | rfl | rfl
     ·
      exact hfree.1.symm
     ·
      exact hfree.2.1.symm
     ·
      exact hfree.2.2.1.symm
     ·
      exact hfree.2.2.2.symm
    ·
     rfl
  rw [e]
  exact hK v' hR
end Go.Hl

namespace Go.Proofs.YtenbfeemmpjdhaaGreatDoor
open Go Go.Hl Go.Pl
set_option maxRecDepth 10000
set_option maxHeartbeats 16000000

theorem gG (x : W32) (n : Nat) (h0 : 0 < n) (hn : n < 32) : aW Tryz.prog 168 [.int .u32 (x.toNat : Int), .int .i64 (-(n : Int))] (fun v => v = .int .u32 ((fS x n).toNat : Int)) := by
 have e1 := bP6 ⟨n, hn⟩ h0
 have e2 : IntKind.u64.wrap (32 - ((32 - n : Nat) : Int)) = (n : Int) := by rw [IntWalk.u64_in _ (by omega)]; omega
 have e3 : 32 - n ≤ 32 := by omega
 have e4 : n ≤ 32 := by omega
 refine FW Tryz.func168 ?_
 refine R0 ?_
 refine aB fun K hK => Rg ?_
 have F := e1
 iterate 4 refine SF ?_
 refine T2 (hK _ _ _ ?_)
 clear hK K
 refine aB fun K hK => Rg ?_
 have F := aI e2 (aI e3 (aI e4 (aI @Int.natCast_nonneg (aI @aT3 (aI @uD (aI @bP1 @cD9))))))
 iterate 9 refine SF ?_
 refine T2 (hK _ _ _ ?_)
 clear hK K
 refine aD (RT Tryz.results168 ?_)
 exact aC [] (.int .u32 _) rfl rfl


theorem jD (x : W32) (n : Nat) (h0 : 0 < n) (hn : n < 32) : aW Tryz.prog 149 [.int .u32 (x.toNat : Int), .int .i64 (n : Int)] (fun v => v = .int .u32 ((fS x n).toNat : Int)) := by
 have e1 : IntKind.u64.wrap (n : Int) = (n : Int) := IntWalk.u64_in _ (by omega)
 have e2 : IntKind.i64.wrap (32 - (n : Int)) = ((32 - n : Nat) : Int) := by rw [IntWalk.i64_in _ (by omega)]; omega
 have e5 : IntKind.u64.wrap ((32 - n : Nat) : Int) = ((32 - n : Nat) : Int) := IntWalk.u64_in _ (by omega)
 have e3 : 32 - n ≤ 32 := by omega
 have e4 : n ≤ 32 := by omega
 refine FW Tryz.func149 ?_
 refine R0 ?_
 refine aB fun K hK => Rg ?_
 have F := aI e1 (aI e2 (aI e3 (aI e4 (aI e5 (aI @Int.natCast_nonneg (aI @aT3 (aI @uD @bP1)))))))
 iterate 11 refine SF ?_
 refine T2 (hK _ _ _ ?_)
 clear hK K
 refine aD (RT Tryz.results149 ?_)
 exact aC [] (.int .u32 _) rfl rfl


theorem bC8 : aW Tryz.prog 136 [] (fun v => v = ws K256) := by
 refine FW Tryz.func136 ?_
 refine R0 ?_
 refine aB fun K hK => Rg ?_
 have F := aI (iY oY) (aI (cJ (iG 64)) @oY)
 refine HS rfl rfl fun K' hK' => T6 ?_
 rw [gY (n := 64) K256 rfl rfl]
 refine AX (hK' _ _ ?_)
 clear hK' K'
 refine SF ?_
 refine T2 (hK _ _ _ ?_)
 clear hK K
 refine aD ?_
 simp only [cH, Tryz.results136, cD, cG, cA, ↓sP, sA, tyS, simprocAttr]
 exact aC [] (ws K256) rfl rfl


theorem aD4 : aW Tryz.prog 150 [] (fun v => v = ws K256) := by
 refine FW Tryz.func150 ?_
 refine R0 ?_
 refine aB fun K hK => Rg ?_
 have F := aI (iY oY) (aI (cJ (iG 64)) @oY)
 refine HS rfl rfl fun K' hK' => T6 ?_
 rw [gY (n := 64) K256 rfl rfl]
 refine AX (hK' _ _ ?_)
 clear hK' K'
 refine SF ?_
 refine T2 (hK _ _ _ ?_)
 clear hK K
 refine aD (RT Tryz.results150 ?_)
 exact aC [] (ws K256) rfl rfl


end Go.Proofs.YtenbfeemmpjdhaaGreatDoor

namespace Go.Proofs.YtenbfeemmpjdhaaGreatDoor
open Go Go.Hl Go.Pl
set_option maxRecDepth 10000
set_option maxHeartbeats 16000000

theorem aL8 (b : List UInt8) (hbl : b.length = 64) : aW Tryz.prog 167 [.slc (b.map u8)] (fun v => v = ws (eU b)) := by
 refine FW Tryz.func167 ?_
 refine R0 ?_
 refine R0 ?_
 refine aB fun K hK => ?_
 refine R0 ?_
 refine aH ?_
 refine aU (α := {i : Nat // i ≤ 16}) (fun i => (fin [(0, .c (.slc (b.map u8))), (2, .ptr 0 0), (3, .ptr 4 0), (10, .c (.int .i64 i.1))], fob [(0, .box 161 (.c (ws (wz 64)))), (4, .box 161 (.c (ws (wA b i.1))))])) 100 (fun i => 16 - i.1) ⟨0, by omega⟩ (fF) ?_
 rintro ⟨i, hi⟩
 have hlen := uF b i
 refine R0 ?_
 refine aB fun K hK => ?_
 refine aJ (b := decide ((i : Int) < 16)) rfl (fun hb => ?_) (fun hb => ?_)
 ·
  have hlt : i < 16 := by simp at hb; omega
  have z : (i : Int) < 64 := by omega
  have q : i < 64 := by omega
  have q0 : 4 * i < 64 := by omega
  have q1 : 4 * i + 1 < 64 := by omega
  have q2 : 4 * i + 2 < 64 := by omega
  have q3 : 4 * i + 3 < 64 := by omega
  have z0 : ((4 * i : Nat) : Int) < 64 := by omega
  have z1 : ((4 * i + 1 : Nat) : Int) < 64 := by omega
  have z2 : ((4 * i + 2 : Nat) : Int) < 64 := by omega
  have z3 : ((4 * i + 3 : Nat) : Int) < 64 := by omega
  have m0 : IntKind.i64.wrap (4 * (i : Int)) = ((4 * i : Nat) : Int) := by rw [IntWalk.i64_in _ (by omega)]; omega
  have m1 : IntKind.i64.wrap (((4 * i : Nat) : Int) + 1) = ((4 * i + 1 : Nat) : Int) := by rw [IntWalk.i64_in _ (by omega)]; omega
  have m2 : IntKind.i64.wrap (((4 * i : Nat) : Int) + 2) = ((4 * i + 2 : Nat) : Int) := by rw [IntWalk.i64_in _ (by omega)]; omega
  have m3 : IntKind.i64.wrap (((4 * i : Nat) : Int) + 3) = ((4 * i + 3 : Nat) : Int) := by rw [IntWalk.i64_in _ (by omega)]; omega
  refine aG ?_
  refine T0 (hK _ _ _ ?_)
  clear hK K
  refine aB fun K hK => ?_
  refine aH ?_
  refine R0 ?_
  refine DW [(0, [], []), (1, [], []), (2, [], []), (3, [], []), (4, [], []), (5, [], []), (6, [], []), (7, [], []), (8, [], []), (9, [], []), (10, [], []), (11, [], []), (12, [], []), (13, [], []), (14, [], []), (15, [], []), (16, [], []), (17, [], []), (18, [], []), (19, [], []), (20, [], []), (21, [], []), (22, [], []), (23, [], []), (24, [], []), (25, [], []), (26, [], []), (27, [], []), (28, [], []), (29, [], []), (30, [], []), (31, [], []), (32, [], []), (33, [], []), (34, [], []), (35, [], [])] [0, 0, 0, 4, 14, 30, 62, 126, 0, 0, 512, 1536, 3840, 7936, 16128, 32512, 65534, 0, 0, 262144, 786432, 1966080, 4063232, 8257536, 16646144, 33554430, 0, 0, 134217728, 402653184, 1006632960, 2080374784, 4227858432, 8589934590, 17179869183, 34359738367] ?_
  iterate 36 refine W0 ?_ (e := fun _ h_ => by simp only [sH, ↓sP, sA, tyS, simprocAttr, m0, m1, m2, m3, q, q0, q1, q2, q3, z, z0, z1, z2, z3, hbl, hlen, Int.natCast_nonneg, bH3, Nat.mul_one, bF3, aT3, bP1, nA, fG]; exact AX h_)
  refine T2 (hK _ _ _ ?_)
  clear hK K
  refine aL (by kernel_rfl) ?_
  refine TQ (bK i) ?_
  refine ⟨⟨i + 1, hlt⟩, aQ (by omega) (by simp [aY, fin_at, finA_at, upd_at, HV.men, HV.menL, HV.norm, HV.toC, HV.toCL]) (by simp [bC, fob_at, upd_at, none0_at, bT, HO.men, HV.men, HV.menL, HV.norm, HV.toC, HV.toCL]; rfl), ?_⟩
  show 16 - (i + 1) < 16 - i
  omega
 refine aS (T3 ?_)
 clear hK K
 refine AX (hK _ _ _ ?_)
 clear hK K
 refine aB fun K hK => ?_
 refine R0 ?_
 refine aH ?_
 have hei : i = 16 := by simp at hb; omega
 subst hei
 clear hb hlen
 refine aU (α := {i : Nat // i ≤ 48}) (fun i => (fin [(0, .c (.slc (b.map u8))), (2, .ptr 0 0), (3, .ptr 4 0), (5, .c (.int .i64 ((i.1 + 16 : Nat) : Int)))], fob [(0, .box 161 (.c (ws (wz 64)))), (4, .box 161 (.c (ws (wB (wA b 16) i.1))))])) 100 (fun i => 48 - i.1) ⟨0, by omega⟩ (fF) ?_
 rintro ⟨i, hi⟩
 have hlen : (wB (wA b 16) i).length = 64 := by rw [aN5, uF]
 refine aB fun K hK => ?_
 refine R0 ?_
 refine aJ (b := decide (((i + 16 : Nat) : Int) < 64)) rfl (fun hb => ?_) (fun hb => ?_)
 ·
  have hlt : i < 48 := by simp at hb; omega
  have q0 : i < 64 := by omega
  have q1 : i + 1 < 64 := by omega
  have q2 : i + 14 < 64 := by omega
  have q3 : i + 9 < 64 := by omega
  have q4 : i + 16 < 64 := by omega
  have z0 : (i : Int) < 64 := by omega
  have z1 : ((i + 1 : Nat) : Int) < 64 := by omega
  have z2 : ((i + 14 : Nat) : Int) < 64 := by omega
  have z3 : ((i + 9 : Nat) : Int) < 64 := by omega
  have z4 : ((i + 16 : Nat) : Int) < 64 := by omega
  have m0 : IntKind.i64.wrap (((i + 16 : Nat) : Int) - 16) = (i : Int) := by rw [IntWalk.i64_in _ (by omega)]; omega
  have m1 : IntKind.i64.wrap (((i + 16 : Nat) : Int) - 15) = ((i + 1 : Nat) : Int) := by rw [IntWalk.i64_in _ (by omega)]; omega
  have m2 : IntKind.i64.wrap (((i + 16 : Nat) : Int) - 2) = ((i + 14 : Nat) : Int) := by rw [IntWalk.i64_in _ (by omega)]; omega
  have m3 : IntKind.i64.wrap (((i + 16 : Nat) : Int) - 7) = ((i + 9 : Nat) : Int) := by rw [IntWalk.i64_in _ (by omega)]; omega
  have m4 : IntKind.i64.wrap (((i + 16 : Nat) : Int) + 1) = ((i + 1 + 16 : Nat) : Int) := by rw [IntWalk.i64_in _ (by omega)]; omega
  refine aG ?_
  refine T0 (hK _ _ _ ?_)
  clear hK K
  refine aB fun K hK => ?_
  refine aH ?_
  refine aB fun K hK => QR ?_
  have F := aI m1 (aI m2 (aI q1 (aI q2 (aI z1 (aI z2 (aI hlen (aI @Int.natCast_nonneg (aI @Nat.mul_one @dD))))))))
  iterate 10 refine SF ?_
  refine T2 (hK _ _ _ ?_)
  clear hK K
  refine aB fun K hK => Rg ?_
  have F := aI @eX @uD
  refine SF ?_
  refine HS rfl rfl fun K' hK' => T6 ?_
  refine C2 (gG _ 7 (by omega) (by omega)) ?_
  rintro u rfl
  refine AX (hK' _ _ ?_)
  clear hK' K'
  refine SF ?_
  refine HS rfl rfl fun K' hK' => T6 ?_
  refine C2 (gG _ 18 (by omega) (by omega)) ?_
  rintro u rfl
  refine AX (hK' _ _ ?_)
  clear hK' K'
  iterate 5 refine SF ?_
  refine T2 (hK _ _ _ ?_)
  clear hK K
  refine aB fun K hK => Rg ?_
  refine SF ?_
  refine HS rfl rfl fun K' hK' => T6 ?_
  refine C2 (gG _ 17 (by omega) (by omega)) ?_
  rintro u rfl
  refine AX (hK' _ _ ?_)
  clear hK' K'
  refine SF ?_
  refine HS rfl rfl fun K' hK' => T6 ?_
  refine C2 (gG _ 19 (by omega) (by omega)) ?_
  rintro u rfl
  refine AX (hK' _ _ ?_)
  clear hK' K'
  iterate 5 refine SF ?_
  refine T2 (hK _ _ _ ?_)
  clear hK K
  refine DW [(0, [], []), (1, [], []), (2, [], []), (3, [], []), (4, [], []), (5, [], []), (6, [], []), (7, [], []), (8, [], []), (9, [], []), (10, [], []), (11, [], []), (12, [], []), (13, [], []), (14, [], []), (15, [], [])] [0, 0, 2, 6, 14, 0, 62, 0, 128, 384, 896, 2046, 0, 8190, 16383, 32767] ?_
  iterate 16 refine W0 ?_ (e := fun _ h_ => by simp only [sH, ↓sP, sA, tyS, simprocAttr, m0, m3, q0, q3, q4, z0, z3, z4, hlen, Int.natCast_nonneg, Nat.mul_one, dD, jM, nA, fG]; exact AX h_)
  refine T2 (hK _ _ _ ?_)
  clear hK K
  refine aL (by kernel_rfl) ?_
  refine TQ m4 ?_
  refine ⟨⟨i + 1, hlt⟩, aQ (by omega) (by simp [aY, fin_at, finA_at, upd_at, HV.men, HV.menL, HV.norm, HV.toC, HV.toCL]) (by simp [bC, fob_at, upd_at, none0_at, bT, HO.men, HV.men, HV.menL, HV.norm, HV.toC, HV.toCL]; rfl), ?_⟩
  show 48 - (i + 1) < 48 - i
  omega
 refine aS (T3 ?_)
 clear hK K
 refine AX (hK _ _ _ ?_)
 clear hK K
 have hei : i = 48 := by simp at hb; omega
 subst hei
 have F := aI hlen (aI @iY (aI @cJ @iG))
 refine RF ?_
 refine aD ?_
 simp only [cH, Tryz.results167, cD, cG, cA, ↓sP, sA, tyS, simprocAttr]
 rw [xZ]
 simp only [iY (kR b), Option.map_some]
 exact aC [] (ws (eU b)) (eT (eZ _)) rfl

end Go.Proofs.YtenbfeemmpjdhaaGreatDoor

namespace Go.Proofs.YtenbfeemmpjdhaaGreatDoor
open Go Go.Hl Go.Pl
set_option maxRecDepth 10000
set_option maxHeartbeats 16000000

theorem zB (s : St) (p : List UInt8) (hp : p.length = 64) : bW7 Tryz.prog 137 152 (ws s.l) [.rp (ws K256), .slc (p.map u8)] (fun v => v = ws (comp s p).l) := by
 refine bH Tryz.func137 rfl (by kernel_rfl) (fY _ _ _) (Nat.le_of_ble_eq_true rfl) ?_
 refine aB fun K hK => Rg ?_
 have F := aI @cJ (aI @iG (aI @kR @denilL_u8))
 refine SF ?_
 refine HS rfl rfl fun K' hK' => T6 ?_
 refine C1 (aL8 p hp) ?_
 rintro u rfl
 refine AX (hK' _ _ ?_)
 clear hK' K'
 iterate 2 refine SF ?_
 refine T2 (hK _ _ _ ?_)
 clear hK K
 refine aB fun K hK => QR ?_
 iterate 20 refine S0 ?_ (e := fun _ h_ => by simp only [sH, ↓sP, sA, tyS, simprocAttr, dD, cI, jR, jS, jT, jU, jV, jW, jX, jY, cF, Nat.mul_one, Int.natCast_nonneg]; exact AX h_)
 refine T2 (hK _ _ _ ?_)
 clear hK K
 refine aB fun K hK => QR ?_
 iterate 20 refine S0 ?_ (e := fun _ h_ => by simp only [sH, ↓sP, sA, tyS, simprocAttr, dD, cI, jR, jS, jT, jU, jV, jW, jX, jY, cF, Nat.mul_one, Int.natCast_nonneg]; exact AX h_)
 refine T2 (hK _ _ _ ?_)
 clear hK K
 refine aB fun K hK => ?_
 refine R0 ?_
 refine aH ?_
 refine aU (α := {x : Nat × St // x.1 ≤ 64 ∧ x.2 = itN (rnd (eU p)) x.1 s}) (fun x => (fin [(0, .ptr 0 0), (1, .c (.rp (ws K256))), (6, .ptr 9 0), (7, .c (.int .u32 (x.1.2.a.toNat : Int))), (8, .c (.int .u32 (x.1.2.b.toNat : Int))), (9, .c (.int .u32 (x.1.2.c.toNat : Int))), (10, .c (.int .u32 (x.1.2.d.toNat : Int))), (11, .c (.int .u32 (x.1.2.e.toNat : Int))), (12, .c (.int .u32 (x.1.2.f.toNat : Int))), (13, .c (.int .u32 (x.1.2.g.toNat : Int))), (14, .c (.int .u32 (x.1.2.h.toNat : Int))), (54, .c (.int .i64 x.1.1))], fob [(0, .box 152 (.c (ws s.l))), (9, .box 161 (.c (ws (eU p))))])) 300 (fun x => 64 - x.1.1) ⟨(0, s), by omega, rfl⟩ (aQ (by omega) (by simp [aY, fin_at, finA_at, upd_at, HV.men, HV.menL, HV.norm, HV.toC, HV.toCL, w32]) (by simp [bC, fob_at, upd_at, none0_at, HO.men, HV.men, HV.menL, HV.norm, HV.toC, HV.toCL])) ?_
 rintro ⟨⟨i, S⟩, hi, hS⟩
 replace hi : i ≤ 64 := hi
 replace hS : S = itN (rnd (eU p)) i s := hS
 refine R0 ?_
 refine aB fun K hK => ?_
 refine aJ (b := decide ((i : Int) < 64)) rfl (fun hb => ?_) (fun hb => ?_)
 ·
  have hlt : i < 64 := by simp at hb; omega
  have z : (i : Int) < 64 := by omega
  refine aG ?_
  refine T0 (hK _ _ _ ?_)
  clear hK K
  refine aB fun K hK => ?_
  refine aH ?_
  refine R0 ?_
  refine aB fun K hK => QR ?_
  iterate 21 refine S0 ?_ (e := fun _ h_ => by simp only [sH, ↓sP, sA, tyS, simprocAttr, z, hlt, aT7, kR, dD, Nat.mul_one, Int.natCast_nonneg, jM, aT2, eX, bV8]; exact AX h_)
  refine T2 (hK _ _ _ ?_)
  clear hK K
  refine aB fun K hK => Rg ?_
  have F := aI @eX (aI @jM @bP7)
  iterate 2 refine SF ?_
  refine HS rfl rfl fun K' hK' => T6 ?_
  refine C2 (gG _ 6 (by omega) (by omega)) ?_
  rintro u rfl
  refine AX (hK' _ _ ?_)
  clear hK' K'
  refine SF ?_
  refine HS rfl rfl fun K' hK' => T6 ?_
  refine C2 (gG _ 11 (by omega) (by omega)) ?_
  rintro u rfl
  refine AX (hK' _ _ ?_)
  clear hK' K'
  iterate 2 refine SF ?_
  refine HS rfl rfl fun K' hK' => T6 ?_
  refine C2 (gG _ 25 (by omega) (by omega)) ?_
  rintro u rfl
  refine AX (hK' _ _ ?_)
  clear hK' K'
  iterate 3 refine SF ?_
  refine T2 (hK _ _ _ ?_)
  clear hK K
  refine aB fun K hK => Rg ?_
  have F := aI @aT2 @eX
  iterate 12 refine SF ?_
  refine T2 (hK _ _ _ ?_)
  clear hK K
  refine aB fun K hK => Rg ?_
  have F := aI @eX (aI @jM @bP8)
  iterate 2 refine SF ?_
  refine HS rfl rfl fun K' hK' => T6 ?_
  refine C2 (gG _ 2 (by omega) (by omega)) ?_
  rintro u rfl
  refine AX (hK' _ _ ?_)
  clear hK' K'
  refine SF ?_
  refine HS rfl rfl fun K' hK' => T6 ?_
  refine C2 (gG _ 13 (by omega) (by omega)) ?_
  rintro u rfl
  refine AX (hK' _ _ ?_)
  clear hK' K'
  iterate 2 refine SF ?_
  refine HS rfl rfl fun K' hK' => T6 ?_
  refine C2 (gG _ 22 (by omega) (by omega)) ?_
  rintro u rfl
  refine AX (hK' _ _ ?_)
  clear hK' K'
  iterate 3 refine SF ?_
  refine T2 (hK _ _ _ ?_)
  clear hK K
  refine aB fun K hK => Rg ?_
  have F := @jM
  iterate 10 refine SF ?_
  refine T2 (hK _ _ _ ?_)
  clear hK K
  refine Rg ?_
  iterate 10 refine SF ?_
  refine T2 (hK _ _ _ ?_)
  clear hK K
  refine aL (by kernel_rfl) ?_
  refine TQ (bK i) ?_
  refine ⟨⟨(i + 1, rnd (eU p) i S), hlt, by rw [hS]; rfl⟩, aQ (by omega) (by simp [aY, fin_at, finA_at, upd_at, HV.men, HV.menL, HV.norm, HV.toC, HV.toCL, rnd]) (by simp [bC, fob_at, upd_at, none0_at, HO.men, HV.men, HV.menL, HV.norm, HV.toC, HV.toCL]), ?_⟩
  show 64 - (i + 1) < 64 - i
  omega
 refine aS (T3 ?_)
 clear hK K
 refine AX (hK _ _ _ ?_)
 clear hK K
 refine aB fun K hK => Rg ?_
 iterate 8 refine S0 ?_
 refine HS rfl rfl fun K' hK' => T5 ?_
 rw [gY (n := 8) S.l rfl rfl]
 refine AX (hK' _ _ ?_)
 clear hK' K'
 refine S0 ?_
 refine T2 (hK _ _ _ ?_)
 clear hK K
 refine aH ?_
 have hei : i = 64 := by simp at hb; omega
 subst hei
 clear hb
 have e8 : uW s S 8 = (comp s p).l := by rw [hS]; rfl
 clear hS
 refine aU (α := {j : Nat // j ≤ 8}) (fun j => (fin [(0, .ptr 0 0), (129, .c (ws S.l)), (130, .c (.int .i64 j.1))], fob [(0, .box 152 (.c (ws (uW s S j.1))))])) 300 (fun j => 8 - j.1) ⟨0, by omega⟩ (fF) ?_
 rintro ⟨j, hj⟩
 have hlen := aI0 s S j (by omega)
 refine R0 ?_
 refine aB fun K hK => ?_
 refine aJ (b := decide ((j : Int) < 8)) rfl (fun hb => ?_) (fun hb => ?_)
 ·
  have hlt : j < 8 := by simp at hb; omega
  have z : (j : Int) < 8 := by omega
  have hg := aT8 s S j hlt
  refine aG ?_
  refine T0 (hK _ _ _ ?_)
  clear hK K
  refine aB fun K hK => ?_
  refine aH ?_
  refine aB fun K hK => Rg ?_
  iterate 4 refine S0 ?_ (e := fun _ h_ => by simp only [sH, ↓sP, sA, tyS, simprocAttr, z, hlt, hlen, hg, dD, cI, jR, jS, jT, jU, jV, jW, jX, jY, cF, Nat.mul_one, Int.natCast_nonneg]; exact AX h_)
  refine T2 (hK _ _ _ ?_)
  clear hK K
  refine DW [(0, [], []), (1, [], []), (2, [], []), (3, [], []), (4, [], []), (5, [], []), (6, [], []), (7, [], []), (8, [], []), (9, [], [])] [0, 0, 1, 7, 15, 0, 63, 1, 255, 511] ?_
  have F := aI z (aI hlt (aI hlen (aI hg (aI @dD (aI @Nat.mul_one (aI @Int.natCast_nonneg (aI @jM (aI @nA @fG))))))))
  iterate 10 refine WF ?_
  refine T2 (hK _ _ _ ?_)
  clear hK K
  refine aL (by kernel_rfl) ?_
  refine TQ (bK j) ?_
  refine ⟨⟨j + 1, hlt⟩, aQ (by omega) (by simp [aY, fin_at, finA_at, upd_at, HV.men, HV.menL, HV.norm, HV.toC, HV.toCL]) (by simp [bC, fob_at, upd_at, none0_at, HO.men, HV.men, HV.menL, HV.norm, HV.toC, HV.toCL]; rw [yA s S j hlt]), ?_⟩
  show 8 - (j + 1) < 8 - j
  omega
 refine aS (T3 ?_)
 clear hK K
 simp only [cH, Tryz.results137, cD, cG, cA, ↓sP, sA, tyS, simprocAttr]
 have hej : j = 8 := by simp at hb; omega
 subst hej
 exact bC7 [] (ws (uW s S 8)) rfl rfl (eT (eZ _)) (by simp) (by rw [e8])

end Go.Proofs.YtenbfeemmpjdhaaGreatDoor

namespace Go.Proofs.YtenbfeemmpjdhaaGreatDoor
open Go Go.Hl Go.Pl
set_option maxRecDepth 10000
set_option maxHeartbeats 16000000

theorem bM4 (s : St) (p : List UInt8) (hp : p.length = 64) : aW Tryz.prog 120 [ws s.l, .slc (p.map u8)] (fun v => v = ws (comp s p).l) := by
 refine FW Tryz.func120 ?_
 refine R0 ?_
 refine R0 ?_
 refine aB fun K hK => ?_
 refine R0 ?_
 refine aH ?_
 refine aU (α := {i : Nat // i ≤ 16}) (fun i => (fin [(1, .c (.slc (p.map u8))), (2, .ptr 0 0), (4, .ptr 4 0), (5, .ptr 8 0), (6, .c (.int .i64 i.1))], fob [(0, .box 152 (.c (ws s.l))), (4, .box 152 (.c (ws (wz 8)))), (8, .box 161 (.c (ws (wA p i.1))))])) 100 (fun i => 16 - i.1) ⟨0, by omega⟩ (fF) ?_
 rintro ⟨i, hi⟩
 have hlen := uF p i
 refine aB fun K hK => ?_
 refine R0 ?_
 refine aJ (b := decide ((i : Int) < 16)) rfl (fun hb => ?_) (fun hb => ?_)
 ·
  have hlt : i < 16 := by simp at hb; omega
  have z : (i : Int) < 64 := by omega
  have q : i < 64 := by omega
  have q0 : 4 * i < 64 := by omega
  have q1 : 4 * i + 1 < 64 := by omega
  have q2 : 4 * i + 2 < 64 := by omega
  have q3 : 4 * i + 3 < 64 := by omega
  have z0 : ((4 * i : Nat) : Int) < 64 := by omega
  have z1 : ((4 * i + 1 : Nat) : Int) < 64 := by omega
  have z2 : ((4 * i + 2 : Nat) : Int) < 64 := by omega
  have z3 : ((4 * i + 3 : Nat) : Int) < 64 := by omega
  have m0 : IntKind.i64.wrap (4 * (i : Int)) = ((4 * i : Nat) : Int) := by rw [IntWalk.i64_in _ (by omega)]; omega
  have m1 : IntKind.i64.wrap (((4 * i : Nat) : Int) + 1) = ((4 * i + 1 : Nat) : Int) := by rw [IntWalk.i64_in _ (by omega)]; omega
  have m2 : IntKind.i64.wrap (((4 * i : Nat) : Int) + 2) = ((4 * i + 2 : Nat) : Int) := by rw [IntWalk.i64_in _ (by omega)]; omega
  have m3 : IntKind.i64.wrap (((4 * i : Nat) : Int) + 3) = ((4 * i + 3 : Nat) : Int) := by rw [IntWalk.i64_in _ (by omega)]; omega
  refine aG ?_
  refine T0 (hK _ _ _ ?_)
  clear hK K
  refine aB fun K hK => ?_
  refine aH ?_
  refine DW [(0, [], []), (1, [], []), (2, [], []), (3, [], []), (4, [], []), (5, [], []), (6, [], []), (7, [], []), (8, [], []), (9, [], []), (10, [], []), (11, [], []), (12, [], []), (13, [], []), (14, [], []), (15, [], []), (16, [], []), (17, [], []), (18, [], []), (19, [], []), (20, [], []), (21, [], []), (22, [], []), (23, [], []), (24, [], []), (25, [], []), (26, [], []), (27, [], []), (28, [], []), (29, [], []), (30, [], []), (31, [], []), (32, [], []), (33, [], []), (34, [], []), (35, [], [])] [0, 0, 0, 4, 14, 30, 62, 126, 0, 0, 512, 1536, 3840, 7936, 16128, 32512, 65534, 0, 0, 262144, 786432, 1966080, 4063232, 8257536, 16646144, 33554430, 0, 0, 134217728, 402653184, 1006632960, 2080374784, 4227858432, 8589934590, 17179869183, 34359738367] ?_
  iterate 36 refine W0 ?_ (e := fun _ h_ => by simp only [sH, ↓sP, sA, tyS, simprocAttr, m0, m1, m2, m3, q, q0, q1, q2, q3, z, z0, z1, z2, z3, hp, hlen, Int.natCast_nonneg, bH3, Nat.mul_one, bF3, aT3, bP1, nA, fG]; exact AX h_)
  refine T2 (hK _ _ _ ?_)
  clear hK K
  refine aL (by kernel_rfl) ?_
  refine TQ (bK i) ?_
  refine ⟨⟨i + 1, hlt⟩, aQ (by omega) (by simp [aY, fin_at, finA_at, upd_at, HV.men, HV.menL, HV.norm, HV.toC, HV.toCL]) (by simp [bC, fob_at, upd_at, none0_at, bT, HO.men, HV.men, HV.menL, HV.norm, HV.toC, HV.toCL]; rfl), ?_⟩
  show 16 - (i + 1) < 16 - i
  omega
 refine aS (T3 ?_)
 clear hK K
 refine AX (hK _ _ _ ?_)
 clear hK K
 refine aB fun K hK => ?_
 refine R0 ?_
 refine aH ?_
 have hei : i = 16 := by simp at hb; omega
 subst hei
 clear hb hlen
 refine aU (α := {i : Nat // i ≤ 48}) (fun i => (fin [(2, .ptr 0 0), (4, .ptr 4 0), (5, .ptr 8 0), (7, .c (.int .i64 ((i.1 + 16 : Nat) : Int)))], fob [(0, .box 152 (.c (ws s.l))), (4, .box 152 (.c (ws (wz 8)))), (8, .box 161 (.c (ws (wB (wA p 16) i.1))))])) 100 (fun i => 48 - i.1) ⟨0, by omega⟩ (fF) ?_
 rintro ⟨i, hi⟩
 have hlen : (wB (wA p 16) i).length = 64 := by rw [aN5, uF]
 refine aB fun K hK => ?_
 refine R0 ?_
 refine aJ (b := decide (((i + 16 : Nat) : Int) < 64)) rfl (fun hb => ?_) (fun hb => ?_)
 ·
  have hlt : i < 48 := by simp at hb; omega
  have q0 : i < 64 := by omega
  have q1 : i + 1 < 64 := by omega
  have q2 : i + 14 < 64 := by omega
  have q3 : i + 9 < 64 := by omega
  have q4 : i + 16 < 64 := by omega
  have z0 : (i : Int) < 64 := by omega
  have z1 : ((i + 1 : Nat) : Int) < 64 := by omega
  have z2 : ((i + 14 : Nat) : Int) < 64 := by omega
  have z3 : ((i + 9 : Nat) : Int) < 64 := by omega
  have z4 : ((i + 16 : Nat) : Int) < 64 := by omega
  have m0 : IntKind.i64.wrap (((i + 16 : Nat) : Int) - 16) = (i : Int) := by rw [IntWalk.i64_in _ (by omega)]; omega
  have m1 : IntKind.i64.wrap (((i + 16 : Nat) : Int) - 15) = ((i + 1 : Nat) : Int) := by rw [IntWalk.i64_in _ (by omega)]; omega
  have m2 : IntKind.i64.wrap (((i + 16 : Nat) : Int) - 2) = ((i + 14 : Nat) : Int) := by rw [IntWalk.i64_in _ (by omega)]; omega
  have m3 : IntKind.i64.wrap (((i + 16 : Nat) : Int) - 7) = ((i + 9 : Nat) : Int) := by rw [IntWalk.i64_in _ (by omega)]; omega
  have m4 : IntKind.i64.wrap (((i + 16 : Nat) : Int) + 1) = ((i + 1 + 16 : Nat) : Int) := by rw [IntWalk.i64_in _ (by omega)]; omega
  refine aG ?_
  refine T0 (hK _ _ _ ?_)
  clear hK K
  refine aB fun K hK => ?_
  refine aH ?_
  refine aB fun K hK => DW [(0, [], []), (1, [], []), (2, [], []), (3, [], []), (5, [], []), (6, [], []), (7, [], []), (8, [], []), (11, [], []), (12, [], []), (13, [], []), (14, [], []), (15, [], []), (4, [], [5, 6, 7, 8, 11, 12, 13, 14, 15]), (9, [], [11, 12, 13, 14, 15]), (10, [], []), (16, [], []), (17, [], [])] [0, 1, 3, 7, 15, 0, 32, 96, 224, 511, 1023, 0, 2048, 6144, 14336, 30720, 65535, 131071] ?_
  have F := aI m1 (aI q1 (aI z1 (aI hlen (aI @Int.natCast_nonneg (aI @Nat.mul_one (aI @dD (aI @eX @uD)))))))
  iterate 13 refine WF ?_
  refine aO (g := none) rfl rfl fun K' hK' => T6 ?_
  refine C2 (jD _ 7 (by omega) (by omega)) ?_
  rintro u rfl
  refine AX (hK' _ _ ?_)
  clear hK' K'
  refine aO (g := none) rfl rfl fun K' hK' => T6 ?_
  refine C2 (jD _ 18 (by omega) (by omega)) ?_
  rintro u rfl
  refine AX (hK' _ _ ?_)
  clear hK' K'
  iterate 3 refine WF ?_
  refine T2 (hK _ _ _ ?_)
  clear hK K
  refine aB fun K hK => DW [(0, [], []), (1, [], []), (2, [], []), (3, [], []), (5, [], []), (6, [], []), (7, [], []), (8, [], []), (11, [], []), (12, [], []), (13, [], []), (14, [], []), (15, [], []), (4, [], [5, 6, 7, 8, 11, 12, 13, 14, 15]), (9, [], [11, 12, 13, 14, 15]), (10, [], []), (16, [], []), (17, [], [])] [0, 1, 3, 7, 15, 0, 32, 96, 224, 511, 1023, 0, 2048, 6144, 14336, 30720, 65535, 131071] ?_
  have F := aI m2 (aI q2 (aI z2 (aI hlen (aI @Int.natCast_nonneg (aI @Nat.mul_one (aI @dD (aI @eX @uD)))))))
  iterate 13 refine WF ?_
  refine aO (g := none) rfl rfl fun K' hK' => T6 ?_
  refine C2 (jD _ 17 (by omega) (by omega)) ?_
  rintro u rfl
  refine AX (hK' _ _ ?_)
  clear hK' K'
  refine aO (g := none) rfl rfl fun K' hK' => T6 ?_
  refine C2 (jD _ 19 (by omega) (by omega)) ?_
  rintro u rfl
  refine AX (hK' _ _ ?_)
  clear hK' K'
  iterate 3 refine WF ?_
  refine T2 (hK _ _ _ ?_)
  clear hK K
  refine DW [(0, [], []), (1, [], []), (2, [], []), (3, [], []), (4, [], []), (5, [], []), (6, [], []), (7, [], []), (8, [], []), (9, [], []), (10, [], []), (11, [], []), (12, [], []), (13, [], []), (14, [], []), (15, [], [])] [0, 0, 2, 6, 14, 0, 62, 0, 128, 384, 896, 2046, 0, 8190, 16383, 32767] ?_
  iterate 16 refine W0 ?_ (e := fun _ h_ => by simp only [sH, ↓sP, sA, tyS, simprocAttr, m0, m3, q0, q3, q4, z0, z3, z4, hlen, Int.natCast_nonneg, Nat.mul_one, dD, jM, nA, fG]; exact AX h_)
  refine T2 (hK _ _ _ ?_)
  clear hK K
  refine aL (by kernel_rfl) ?_
  refine TQ m4 ?_
  refine ⟨⟨i + 1, hlt⟩, aQ (by omega) (by simp [aY, fin_at, finA_at, upd_at, HV.men, HV.menL, HV.norm, HV.toC, HV.toCL]) (by simp [bC, fob_at, upd_at, none0_at, bT, HO.men, HV.men, HV.menL, HV.norm, HV.toC, HV.toCL]; rfl), ?_⟩
  show 48 - (i + 1) < 48 - i
  omega
 refine aS (T3 ?_)
 clear hK K
 refine AX (hK _ _ _ ?_)
 clear hK K
 have hei : i = 48 := by simp at hb; omega
 subst hei
 clear hb hlen
 rw [xZ]
 refine aB fun K hK => Rg ?_
 have F := aI @cJ (aI @iG @aT7)
 refine HS rfl rfl fun K' hK' => T6 ?_
 refine C0 aD4 ?_
 rintro u rfl
 refine AX (hK' _ _ ?_)
 clear hK' K'
 iterate 2 refine SF ?_
 refine T2 (hK _ _ _ ?_)
 clear hK K
 have F := aI @iY (aI @cJ (aI @iG @cI))
 refine RF ?_
 refine aB fun K hK => ?_
 refine R0 ?_
 refine aH ?_
 refine aU (α := {x : Nat × St // x.1 ≤ 64 ∧ x.2 = itN (rnd (eU p)) x.1 s}) (fun x => (fin [(2, .ptr 0 0), (4, .ptr 4 0), (5, .ptr 8 0), (10, .ptr 112 0), (11, .ptr 124 0), (12, .c (.int .i64 x.1.1))], fob [(0, .box 152 (.c (ws s.l))), (4, .box 152 (.c (ws (wz 8)))), (8, .box 161 (.c (ws (eU p)))), (112, .box 161 (.c (ws K256))), (124, .box 152 (.c (ws x.1.2.l)))])) 300 (fun x => 64 - x.1.1) ⟨(0, s), by omega, rfl⟩ (fF) ?_
 rintro ⟨⟨i, S⟩, hi, hS⟩
 replace hi : i ≤ 64 := hi
 replace hS : S = itN (rnd (eU p)) i s := hS
 refine aB fun K hK => ?_
 refine R0 ?_
 refine aJ (b := decide ((i : Int) < 64)) rfl (fun hb => ?_) (fun hb => ?_)
 ·
  have hlt : i < 64 := by simp at hb; omega
  have z : (i : Int) < 64 := by omega
  refine aG ?_
  refine T0 (hK _ _ _ ?_)
  clear hK K
  refine aB fun K hK => ?_
  refine aH ?_
  refine aB fun K hK => DW [(0, [], []), (1, [], []), (3, [], []), (4, [], []), (7, [], []), (8, [], []), (2, [], [3, 4, 7, 8]), (5, [], [7, 8]), (6, [], []), (9, [], [6]), (10, [], []), (11, [], [])] [0, 1, 3, 0, 8, 31, 63, 0, 128, 447, 1023, 2047] ?_
  iterate 6 refine W0 ?_ (e := fun _ h_ => by simp only [sH, ↓sP, sA, tyS, simprocAttr, dD, cI, jR, jS, jT, jU, jV, jW, jX, jY, cF, Nat.mul_one, Int.natCast_nonneg, eX]; exact AX h_)
  refine aO (g := none) rfl rfl fun K' hK' => ?_
  simp only [sH, ↓sP, sA, tyS, simprocAttr, dD, cI, jR, jS, jT, jU, jV, jW, jX, jY, cF, Nat.mul_one, Int.natCast_nonneg, eX]
  refine C2 (jD _ 6 (by omega) (by omega)) ?_
  rintro u rfl
  refine AX (hK' _ _ ?_)
  clear hK' K'
  refine aO (g := none) rfl rfl fun K' hK' => ?_
  simp only [sH, ↓sP, sA, tyS, simprocAttr, dD, cI, jR, jS, jT, jU, jV, jW, jX, jY, cF, Nat.mul_one, Int.natCast_nonneg, eX]
  refine C2 (jD _ 11 (by omega) (by omega)) ?_
  rintro u rfl
  refine AX (hK' _ _ ?_)
  clear hK' K'
  refine W0 ?_ (e := fun _ h_ => by simp only [sH, ↓sP, sA, tyS, simprocAttr, dD, cI, jR, jS, jT, jU, jV, jW, jX, jY, cF, Nat.mul_one, Int.natCast_nonneg, eX]; exact AX h_)
  refine aO (g := none) rfl rfl fun K' hK' => ?_
  simp only [sH, ↓sP, sA, tyS, simprocAttr, dD, cI, jR, jS, jT, jU, jV, jW, jX, jY, cF, Nat.mul_one, Int.natCast_nonneg, eX]
  refine C2 (jD _ 25 (by omega) (by omega)) ?_
  rintro u rfl
  refine AX (hK' _ _ ?_)
  clear hK' K'
  iterate 2 refine W0 ?_ (e := fun _ h_ => by simp only [sH, ↓sP, sA, tyS, simprocAttr, dD, cI, jR, jS, jT, jU, jV, jW, jX, jY, cF, Nat.mul_one, Int.natCast_nonneg, eX]; exact AX h_)
  refine T2 (hK _ _ _ ?_)
  clear hK K
  refine aB fun K hK => QR ?_
  iterate 26 refine S0 ?_ (e := fun _ h_ => by simp only [sH, ↓sP, sA, tyS, simprocAttr, dD, cI, jR, jS, jT, jU, jV, jW, jX, jY, cF, Nat.mul_one, Int.natCast_nonneg, z, hlt, aT7, kR, jM, aT2, eX, bV8, bZ2]; exact AX h_)
  refine T2 (hK _ _ _ ?_)
  clear hK K
  refine aB fun K hK => DW [(0, [], []), (1, [], []), (3, [], []), (4, [], []), (7, [], []), (8, [], []), (2, [], [3, 4, 7, 8]), (5, [], [7, 8]), (6, [], []), (9, [], [6]), (10, [], []), (11, [], [])] [0, 1, 3, 0, 8, 31, 63, 0, 128, 447, 1023, 2047] ?_
  iterate 6 refine W0 ?_ (e := fun _ h_ => by simp only [sH, ↓sP, sA, tyS, simprocAttr, dD, cI, jR, jS, jT, jU, jV, jW, jX, jY, cF, Nat.mul_one, Int.natCast_nonneg, eX]; exact AX h_)
  refine aO (g := none) rfl rfl fun K' hK' => ?_
  simp only [sH, ↓sP, sA, tyS, simprocAttr, dD, cI, jR, jS, jT, jU, jV, jW, jX, jY, cF, Nat.mul_one, Int.natCast_nonneg, eX]
  refine C2 (jD _ 2 (by omega) (by omega)) ?_
  rintro u rfl
  refine AX (hK' _ _ ?_)
  clear hK' K'
  refine aO (g := none) rfl rfl fun K' hK' => ?_
  simp only [sH, ↓sP, sA, tyS, simprocAttr, dD, cI, jR, jS, jT, jU, jV, jW, jX, jY, cF, Nat.mul_one, Int.natCast_nonneg, eX]
  refine C2 (jD _ 13 (by omega) (by omega)) ?_
  rintro u rfl
  refine AX (hK' _ _ ?_)
  clear hK' K'
  refine W0 ?_ (e := fun _ h_ => by simp only [sH, ↓sP, sA, tyS, simprocAttr, dD, cI, jR, jS, jT, jU, jV, jW, jX, jY, cF, Nat.mul_one, Int.natCast_nonneg, eX]; exact AX h_)
  refine aO (g := none) rfl rfl fun K' hK' => ?_
  simp only [sH, ↓sP, sA, tyS, simprocAttr, dD, cI, jR, jS, jT, jU, jV, jW, jX, jY, cF, Nat.mul_one, Int.natCast_nonneg, eX]
  refine C2 (jD _ 22 (by omega) (by omega)) ?_
  rintro u rfl
  refine AX (hK' _ _ ?_)
  clear hK' K'
  iterate 2 refine W0 ?_ (e := fun _ h_ => by simp only [sH, ↓sP, sA, tyS, simprocAttr, dD, cI, jR, jS, jT, jU, jV, jW, jX, jY, cF, Nat.mul_one, Int.natCast_nonneg, eX]; exact AX h_)
  refine T2 (hK _ _ _ ?_)
  clear hK K
  refine aB fun K hK => Rg ?_
  iterate 20 refine S0 ?_ (e := fun _ h_ => by simp only [sH, ↓sP, sA, tyS, simprocAttr, dD, cI, jR, jS, jT, jU, jV, jW, jX, jY, cF, Nat.mul_one, Int.natCast_nonneg, jM, aT2, eX, bZ3]; exact AX h_)
  refine T2 (hK _ _ _ ?_)
  clear hK K
  refine Rg ?_
  iterate 19 refine S0 ?_ (e := fun _ h_ => by simp only [sH, ↓sP, sA, tyS, simprocAttr, dD, cI, jR, jS, jT, jU, jV, jW, jX, jY, cF, Nat.mul_one, Int.natCast_nonneg, jM, cJ]; exact AX h_)
  refine HS rfl rfl fun K' hK' => ?_
  simp only [sH, ↓sP, sA, tyS, simprocAttr, dD, cI, jR, jS, jT, jU, jV, jW, jX, jY, cF, Nat.mul_one, Int.natCast_nonneg, jM, cJ]
  rw [gY (n := 8) (rnd (eU p) i S).l rfl rfl]
  refine AX (hK' _ _ ?_)
  clear hK' K'
  refine S0 ?_ (e := fun _ h_ => by simp only [sH, ↓sP, sA, tyS, simprocAttr, dD, cI, jR, jS, jT, jU, jV, jW, jX, jY, cF, Nat.mul_one, Int.natCast_nonneg, jM, cJ]; exact AX h_)
  refine T2 (hK _ _ _ ?_)
  clear hK K
  refine aL (by kernel_rfl) ?_
  refine TQ (bK i) ?_
  refine ⟨⟨(i + 1, rnd (eU p) i S), hlt, by rw [hS]; rfl⟩, fF, ?_⟩
  show 64 - (i + 1) < 64 - i
  omega
 refine aS (T3 ?_)
 clear hK K
 refine AX (hK _ _ _ ?_)
 clear hK K
 refine aB fun K hK => ?_
 refine R0 ?_
 refine aH ?_
 have hei : i = 64 := by simp at hb; omega
 subst hei
 clear hb
 have e8 : uW s S 8 = (comp s p).l := by rw [hS]; rfl
 clear hS
 refine aU (α := {j : Nat // j ≤ 8}) (fun j => (fin [(2, .ptr 0 0), (4, .ptr 4 0), (11, .ptr 124 0), (17, .c (.int .i64 j.1))], fob [(0, .box 152 (.c (ws (uW s S j.1)))), (4, .box 152 (.c (ws (wz 8)))), (124, .box 152 (.c (ws S.l)))])) 300 (fun j => 8 - j.1) ⟨0, by omega⟩ (fF) ?_
 rintro ⟨j, hj⟩
 have hlen := aI0 s S j (by omega)
 refine aB fun K hK => ?_
 refine R0 ?_
 refine aJ (b := decide ((j : Int) < 8)) rfl (fun hb => ?_) (fun hb => ?_)
 ·
  have hlt : j < 8 := by simp at hb; omega
  have z : (j : Int) < 8 := by omega
  have hg := aT8 s S j hlt
  refine aG ?_
  refine T0 (hK _ _ _ ?_)
  clear hK K
  refine aB fun K hK => ?_
  refine aH ?_
  refine DW [(0, [], []), (1, [], []), (2, [], []), (3, [], []), (4, [], []), (5, [], []), (6, [], []), (7, [], []), (8, [], []), (9, [], [])] [0, 0, 2, 6, 0, 16, 48, 126, 255, 511] ?_
  iterate 10 refine W0 ?_ (e := fun _ h_ => by simp only [sH, ↓sP, sA, tyS, simprocAttr, z, hlt, hlen, hg, dD, cI, Nat.mul_one, Int.natCast_nonneg, jM, nA, fG]; exact AX h_)
  refine T2 (hK _ _ _ ?_)
  clear hK K
  refine aL (by kernel_rfl) ?_
  refine TQ (bK j) ?_
  refine ⟨⟨j + 1, hlt⟩, aQ (by omega) (by simp [aY, fin_at, finA_at, upd_at, HV.men, HV.menL, HV.norm, HV.toC, HV.toCL]) (by simp [bC, fob_at, upd_at, none0_at, HO.men, HV.men, HV.menL, HV.norm, HV.toC, HV.toCL]; rw [yA s S j hlt]), ?_⟩
  show 8 - (j + 1) < 8 - j
  omega
 refine aS (T3 ?_)
 clear hK K
 refine AX (hK _ _ _ ?_)
 clear hK K
 have hej : j = 8 := by simp at hb; omega
 subst hej
 clear hb
 have F := aI @iY (aI @cJ (aI @iG hlen))
 refine RF ?_
 refine aD ?_
 simp only [cH, Tryz.results120, cD, cG, cA, ↓sP, sA, tyS, simprocAttr]
 simp only [iY hlen, Option.map_some]
 exact aC [] (ws (uW s S 8)) (eT (eZ _)) (by rw [e8])

end Go.Proofs.YtenbfeemmpjdhaaGreatDoor
