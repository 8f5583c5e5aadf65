/- Part of a proof: walks of functions of the program, by contracts, and the rules they use. By an AI agent. -/
import Derived.Test.YtenbfeemmpjdhaaGreatDoorHyT4
import Derived.Test.YtenbfeemmpjdhaaGreatDoorHyT5
import Derived.Test.YtenbfeemmpjdhaaGreatDoorHySb
import Derived.Test.YtenbfeemmpjdhaaGreatDoorPl11m
import Derived.Test.YtenbfeemmpjdhaaGreatDoorHyTz
set_option linter.unusedSimpArgs false
set_option linter.unusedVariables false
set_option linter.defProp false
namespace Go.Proofs.YtenbfeemmpjdhaaGreatDoor
open Go Go.Hl Go.Pl
set_option maxRecDepth 10000
set_option maxHeartbeats 16000000

theorem bA3 (l : List Qt) (hl : l.length < 2 ^ 40) (hw : ∀ q ∈ l, q.r.length < 2 ^ 63) : aW Tryz.prog 32 [.slc (l.map Qt.cv)] (fun v => v = .bool (eC l)) := by
 refine FW Tryz.func32 ?_
 refine R0 ?_
 refine aB fun K hK => ?_
 refine R0 ?_
 refine aH ?_
 refine aT (α := {i : Nat // i ≤ l.length ∧ GoodTo kV (fun a b => slt a.r b.r) l i}) (fun i => (fin [(0, .c (.slc (l.map Qt.cv))), (5, .c (.slc (l.map Qt.cv))), (6, .c (.int .i64 l.length)), (7, .c (.int .i64 i.1))], fob [])) 100 (fun i => l.length - i.1) ⟨0, by omega, GoodTo.zero⟩ (fF) ?_
 rintro ⟨i, hi, h0⟩
 refine R0 ?_
 refine aB fun K hK => ?_
 refine aJ (b := decide ((i : Int) < l.length)) rfl (fun hb => ?_) (fun hb => ?_)
 ·
  have hlt : i < l.length := by simpa using hb
  have hi1 : i - 1 < l.length := by omega
  have hm : decide ((0 : Int) < (i : Int)) = true → IntKind.i64.wrap ((i : Int) - 1) = ((i - 1 : Nat) : Int) := fun h => by
   have : 0 < i := by simpa using h
   rw [IntWalk.i64_in _ (by omega)]; omega
  refine aG ?_
  refine T0 (hK _ _ _ ?_)
  clear hK K
  refine aB fun K hK => ?_
  refine aH ?_
  refine aB fun K hK => Rg ?_
  have F := aI @Int.natCast_nonneg (aI @Int.ofNat_lt (aI hlt (nM hlt)))
  iterate 6 refine SF ?_
  refine T2 (hK _ _ _ ?_)
  clear hK K
  refine aB fun K hK => DW [(0, [], []), (1, [], []), (2, [], []), (3, [], []), (4, [], []), (5, [], []), (6, [], []), (7, [], []), (8, [], []), (9, [], []), (10, [], []), (11, [], []), (12, [], []), (13, [], []), (14, [], []), (15, [], []), (16, [], []), (17, [], []), (18, [], []), (19, [], []), (20, [], []), (21, [], []), (22, [], []), (23, [], []), (24, [], []), (25, [], []), (26, [], []), (27, [], []), (28, [], [])] [0, 1, 3, 7, 15, 31, 63, 127, 255, 511, 1023, 2047, 4095, 8191, 16383, 32767, 65535, 131071, 262143, 262143, 786431, 2097151, 4194303, 8388607, 262143, 17039359, 67108863, 134217727, 268435455] ?_
  have F := aI hm (aI @Int.natCast_nonneg (aI @Int.ofNat_lt (aI hi1 (nM hi1))))
  iterate 2 refine WF ?_
  refine aN (g := none) rfl rfl fun K' hK' => T6 ?_
  refine C1 (zZ l[i].r (hw _ (List.getElem_mem hlt))) ?_
  rintro u rfl
  refine AX (hK' _ _ ?_)
  clear hK' K'
  iterate 2 refine WF ?_
  refine bD 14 rfl (fun h4_14 => ?_) (fun h4_14 => ?_)
  ·
   have F := aI hm (aI @Int.natCast_nonneg (aI @Int.ofNat_lt (aI hi1 (aI (nM hi1) h4_14))))
   iterate 5 refine WF ?_
   refine bD 19 rfl (fun h4_19 => ?_) (fun h4_19 => ?_)
   ·
    have F := aI hm (aI @Int.natCast_nonneg (aI @Int.ofNat_lt (aI hi1 (aI (nM hi1) (aI h4_14 h4_19)))))
    iterate 19 refine WF ?_
    refine T2 (hK _ _ _ ?_)
    clear hK K
    refine CT rfl ?_
    refine R0 ?_
    refine aD (RT Tryz.results32 ?_)
    exact aC [] (.bool false) rfl (by rw [dD, cX hlt (by simp only [dA, h4_14, h4_19, Bool.not_true, Bool.not_false, Bool.false_and, Bool.and_false]), Bool.false_and])
   have F := aI hm (aI @Int.natCast_nonneg (aI @Int.ofNat_lt (aI hi1 (aI (nM hi1) (aI h4_14 h4_19)))))
   iterate 5 refine WF ?_
   refine bD 24 rfl (fun h4_24 => ?_) (fun h4_24 => ?_)
   ·
    have F := aI hm (aI @Int.natCast_nonneg (aI @Int.ofNat_lt (aI hi1 (aI (nM hi1) (aI h4_14 (aI h4_19 h4_24))))))
    iterate 14 refine WF ?_
    refine T2 (hK _ _ _ ?_)
    clear hK K
    refine CT rfl ?_
    refine R0 ?_
    refine aD (RT Tryz.results32 ?_)
    exact aC [] (.bool false) rfl (by rw [dD, cX hlt (by simp only [dA, h4_14, h4_19, h4_24, Bool.not_true, Bool.not_false, Bool.false_and, Bool.and_false]), Bool.false_and])
   have F := aI hm (aI @Int.natCast_nonneg (aI @Int.ofNat_lt (aI hi1 (aI (nM hi1) (aI h4_14 (aI h4_19 h4_24))))))
   iterate 3 refine WF ?_
   refine bD 28 rfl (fun h4_28 => ?_) (fun h4_28 => ?_)
   ·
    have F := aI hm (aI @Int.natCast_nonneg (aI @Int.ofNat_lt (aI hi1 (aI (nM hi1) (aI h4_14 (aI h4_19 (aI h4_24 h4_28)))))))
    iterate 11 refine WF ?_
    refine bD 38 rfl (fun h4_38 => ?_) (fun h4_38 => ?_)
    ·
     simp only [h4_38]
     refine T2 (hK _ _ _ ?_)
     clear hK K
     refine CT rfl ?_
     refine R0 ?_
     refine aD (RT Tryz.results32 ?_)
     obtain ⟨j, rfl⟩ : ∃ j, i = j + 1 := ⟨i - 1, by simp at h4_28; omega⟩
     exact aC [] (.bool false) rfl (by rw [dD, kZ (i := j) hlt (by simpa using h4_38), Bool.false_and])
    simp only [h4_38]
    refine T2 (hK _ _ _ ?_)
    clear hK K
    refine CF rfl ?_
    refine aG ?_
    refine T0 (hK _ _ _ ?_)
    clear hK K
    refine aM (by kernel_rfl) ?_
    refine TQ (bK i) ?_
    obtain ⟨j, rfl⟩ : ∃ j, i = j + 1 := ⟨i - 1, by simp at h4_28; omega⟩
    refine ⟨⟨j + 1 + 1, hlt, h0.succ hlt (by simp only [dA, h4_14, h4_19, h4_24, h4_28, h4_38]; rfl) (by simpa using h4_38)⟩, fF, ?_⟩
    show l.length - (j + 1 + 1) < l.length - (j + 1)
    omega
   have F := aI hm (aI @Int.natCast_nonneg (aI @Int.ofNat_lt (aI hi1 (aI (nM hi1) (aI h4_14 (aI h4_19 (aI h4_24 h4_28)))))))
   iterate 11 refine WF ?_
   refine T2 (hK _ _ _ ?_)
   clear hK K
   refine CF rfl ?_
   refine aG ?_
   refine T0 (hK _ _ _ ?_)
   clear hK K
   refine aM (by kernel_rfl) ?_
   refine TQ (bK i) ?_
   obtain rfl : i = 0 := by simp at h4_28; omega
   refine ⟨⟨1, hlt, GoodTo.one hlt (by simp only [dA, h4_14, h4_19, h4_24, h4_28]; rfl)⟩, fF, ?_⟩
   show l.length - 1 < l.length - 0
   omega
  have F := aI hm (aI @Int.natCast_nonneg (aI @Int.ofNat_lt (aI hi1 (aI (nM hi1) h4_14))))
  iterate 24 refine WF ?_
  refine T2 (hK _ _ _ ?_)
  clear hK K
  refine CT rfl ?_
  refine R0 ?_
  refine aD (RT Tryz.results32 ?_)
  exact aC [] (.bool false) rfl (by rw [dD, cX hlt (by simp only [dA, h4_14, Bool.not_true, Bool.not_false, Bool.false_and, Bool.and_false]), Bool.false_and])
 refine aS (T3 ?_)
 clear hK K
 refine AX (hK _ _ _ ?_)
 clear hK K
 refine aB fun K hK => Rg ?_
 iterate 4 refine S0 ?_
 refine T2 (hK _ _ _ ?_)
 clear hK K
 refine aD (RT Tryz.results32 ?_)
 have hei : i = l.length := by simp at hb; omega
 subst hei
 refine aC [] (.bool _) rfl ?_
 rw [dD, h0.all, Bool.true_and]
 congr 1
 exact decide_eq_decide.2 (by omega)


theorem vM (l : List Rv) (hl : l.length < 2 ^ 40) : aW Tryz.prog 34 [.slc (l.map Rv.cv)] (fun v => v = .bool (gK l)) := by
 refine FW Tryz.func34 ?_
 refine R0 ?_
 refine aB fun K hK => ?_
 refine R0 ?_
 refine aH ?_
 refine aT (α := {i : Nat // i ≤ l.length ∧ GoodTo (fun x => inN x.t) (fun a b => dlt a.k b.k) l i}) (fun i => (fin [(0, .c (.slc (l.map Rv.cv))), (5, .c (.slc (l.map Rv.cv))), (6, .c (.int .i64 l.length)), (7, .c (.int .i64 i.1))], fob [])) 100 (fun i => l.length - i.1) ⟨0, by omega, GoodTo.zero⟩ (fF) ?_
 rintro ⟨i, hi, h0⟩
 refine R0 ?_
 refine aB fun K hK => ?_
 refine aJ (b := decide ((i : Int) < l.length)) rfl (fun hb => ?_) (fun hb => ?_)
 ·
  have hlt : i < l.length := by simpa using hb
  have hi1 : i - 1 < l.length := by omega
  have hm : decide ((0 : Int) < (i : Int)) = true → IntKind.i64.wrap ((i : Int) - 1) = ((i - 1 : Nat) : Int) := fun h => by
   have : 0 < i := by simpa using h
   rw [IntWalk.i64_in _ (by omega)]; omega
  refine aG ?_
  refine T0 (hK _ _ _ ?_)
  clear hK K
  refine aB fun K hK => ?_
  refine aH ?_
  refine aB fun K hK => Rg ?_
  have F := aI @Int.natCast_nonneg (aI @Int.ofNat_lt (aI hlt (nM hlt)))
  iterate 6 refine SF ?_
  refine T2 (hK _ _ _ ?_)
  clear hK K
  refine aB fun K hK => DW [(0, [], []), (1, [], []), (2, [], []), (3, [], []), (4, [], []), (5, [], []), (6, [], []), (7, [], []), (8, [], []), (9, [], []), (10, [], []), (11, [], []), (12, [], []), (13, [], []), (14, [], []), (15, [], []), (16, [], []), (17, [], []), (18, [], []), (19, [], [])] [0, 1, 3, 7, 15, 31, 63, 127, 255, 255, 767, 2047, 4095, 8191, 255, 16639, 65535, 131071, 262143, 524287] ?_
  have F := aI hm (aI @Int.natCast_nonneg (aI @Int.ofNat_lt (aI hi1 (nM hi1))))
  iterate 2 refine WF ?_
  refine aN (g := none) rfl rfl fun K' hK' => T6 ?_
  refine C2 (jX 0 l[i].t) ?_
  rintro u rfl
  refine AX (hK' _ _ ?_)
  clear hK' K'
  iterate 2 refine WF ?_
  refine bD 14 rfl (fun h4_14 => ?_) (fun h4_14 => ?_)
  ·
   have F := aI hm (aI @Int.natCast_nonneg (aI @Int.ofNat_lt (aI hi1 (aI (nM hi1) h4_14))))
   iterate 3 refine WF ?_
   refine bD 18 rfl (fun h4_18 => ?_) (fun h4_18 => ?_)
   ·
    have F := aI hm (aI @Int.natCast_nonneg (aI @Int.ofNat_lt (aI hi1 (aI (nM hi1) (aI h4_14 h4_18)))))
    iterate 8 refine WF ?_
    refine aN (g := some (19, true)) rfl rfl fun K' hK' => T6 ?_
    refine C2 (aJ2 l[i - 1].k l[i].k) ?_
    rintro u rfl
    refine AX (hK' _ _ ?_)
    clear hK' K'
    iterate 3 refine WF ?_
    refine bD 29 rfl (fun h4_29 => ?_) (fun h4_29 => ?_)
    ·
     simp only [h4_29]
     refine T2 (hK _ _ _ ?_)
     clear hK K
     refine CT rfl ?_
     refine R0 ?_
     refine aD (RT Tryz.results34 ?_)
     obtain ⟨j, rfl⟩ : ∃ j, i = j + 1 := ⟨i - 1, by simp at h4_18; omega⟩
     exact aC [] (.bool false) rfl (by rw [iB, kZ (i := j) hlt (by rw [sG] at h4_29; simpa using h4_29), Bool.false_and])
    simp only [h4_29]
    refine T2 (hK _ _ _ ?_)
    clear hK K
    refine CF rfl ?_
    refine aG ?_
    refine T0 (hK _ _ _ ?_)
    clear hK K
    refine aM (by kernel_rfl) ?_
    refine TQ (bK i) ?_
    obtain ⟨j, rfl⟩ : ∃ j, i = j + 1 := ⟨i - 1, by simp at h4_18; omega⟩
    refine ⟨⟨j + 1 + 1, hlt, h0.succ hlt h4_14 (by rw [sG] at h4_29; simpa using h4_29)⟩, fF, ?_⟩
    show l.length - (j + 1 + 1) < l.length - (j + 1)
    omega
   have F := aI hm (aI @Int.natCast_nonneg (aI @Int.ofNat_lt (aI hi1 (aI (nM hi1) (aI h4_14 h4_18)))))
   iterate 12 refine WF ?_
   refine T2 (hK _ _ _ ?_)
   clear hK K
   refine CF rfl ?_
   refine aG ?_
   refine T0 (hK _ _ _ ?_)
   clear hK K
   refine aM (by kernel_rfl) ?_
   refine TQ (bK i) ?_
   obtain rfl : i = 0 := by simp at h4_18; omega
   refine ⟨⟨1, hlt, GoodTo.one hlt h4_14⟩, fF, ?_⟩
   show l.length - 1 < l.length - 0
   omega
  have F := aI hm (aI @Int.natCast_nonneg (aI @Int.ofNat_lt (aI hi1 (aI (nM hi1) h4_14))))
  iterate 15 refine WF ?_
  refine T2 (hK _ _ _ ?_)
  clear hK K
  refine CT rfl ?_
  refine R0 ?_
  refine aD (RT Tryz.results34 ?_)
  exact aC [] (.bool false) rfl (by rw [iB, cX hlt h4_14, Bool.false_and])
 refine aS (T3 ?_)
 clear hK K
 refine AX (hK _ _ _ ?_)
 clear hK K
 refine aB fun K hK => Rg ?_
 iterate 4 refine S0 ?_
 refine T2 (hK _ _ _ ?_)
 clear hK K
 refine aD (RT Tryz.results34 ?_)
 have hei : i = l.length := by simp at hb; omega
 subst hei
 refine aC [] (.bool _) rfl ?_
 rw [iB, h0.all, Bool.true_and]
 congr 1
 exact decide_eq_decide.2 (by omega)


theorem bR7 (k : Ky) (hk : kSz k) : aW Tryz.prog 40 [k.cv] (fun v => v = .bool (tT k)) := by
 refine FW Tryz.func40 ?_
 refine R0 ?_
 refine aB fun K hK => Rg ?_
 iterate 2 refine S0 ?_
 refine HS rfl rfl fun K' hK' => T5 ?_
 refine C1 (aN7 k.p) ?_
 rintro u rfl
 refine AX (hK' _ _ ?_)
 clear hK' K'
 refine S0 ?_
 refine aE 5 rfl (fun h1_5 => ?_) (fun h1_5 => ?_)
 ·
  have F := h1_5
  iterate 2 refine SF ?_
  refine aZ (g := some (6, true)) rfl rfl fun K' hK' => T6 ?_
  refine C1 (vL k.o hk.1) ?_
  rintro u rfl
  refine AX (hK' _ _ ?_)
  clear hK' K'
  iterate 2 refine SF ?_
  refine aE 9 rfl (fun h1_9 => ?_) (fun h1_9 => ?_)
  ·
   have F := aI h1_5 h1_9
   iterate 6 refine SF ?_
   refine aE 15 rfl (fun h1_15 => ?_) (fun h1_15 => ?_)
   ·
    have F := aI h1_5 (aI h1_9 h1_15)
    iterate 6 refine SF ?_
    refine aE 21 rfl (fun h1_21 => ?_) (fun h1_21 => ?_)
    ·
     have F := aI h1_5 (aI h1_9 (aI h1_15 h1_21))
     iterate 2 refine SF ?_
     refine aZ (g := some (23, true)) rfl rfl fun K' hK' => T6 ?_
     refine C1 (bA2 k.rs hk.2.1 hk.2.2) ?_
     rintro u rfl
     refine AX (hK' _ _ ?_)
     clear hK' K'
     iterate 2 refine SF ?_
     refine aE 26 rfl (fun h1_26 => ?_) (fun h1_26 => ?_)
     ·
      have F := aI h1_5 (aI h1_9 (aI h1_15 (aI h1_21 h1_26)))
      iterate 5 refine SF ?_
      refine aE 31 rfl (fun h1_31 => ?_) (fun h1_31 => ?_)
      ·
       have F := aI h1_5 (aI h1_9 (aI h1_15 (aI h1_21 (aI h1_26 h1_31))))
       iterate 7 refine SF ?_
       refine aE 38 rfl (fun h1_38 => ?_) (fun h1_38 => ?_)
       ·
        have F := aI h1_5 (aI h1_9 (aI h1_15 (aI h1_21 (aI h1_26 (aI h1_31 h1_38)))))
        iterate 5 refine SF ?_
        refine aE 43 rfl (fun h1_43 => ?_) (fun h1_43 => ?_)
        ·
         simp only [h1_43]
         refine T2 (hK _ _ _ ?_)
         clear hK K
         refine aD (RT Tryz.results40 ?_)
         exact aC [] (.bool true) rfl (by simp only [fT, dX, h1_5, h1_9, h1_15, h1_21, h1_26, h1_31, h1_38, h1_43, Bool.and_true, Bool.and_false, Bool.true_and, Bool.false_and]; try exact congrArg CV.bool h1_43.symm)
        simp only [h1_43]
        refine T2 (hK _ _ _ ?_)
        clear hK K
        refine aD (RT Tryz.results40 ?_)
        exact aC [] (.bool false) rfl (by simp only [fT, dX, h1_5, h1_9, h1_15, h1_21, h1_26, h1_31, h1_38, h1_43, Bool.and_true, Bool.and_false, Bool.true_and, Bool.false_and]; try exact congrArg CV.bool h1_43.symm)
       have F := aI h1_5 (aI h1_9 (aI h1_15 (aI h1_21 (aI h1_26 (aI h1_31 h1_38)))))
       iterate 5 refine SF ?_
       refine T2 (hK _ _ _ ?_)
       clear hK K
       refine aD (RT Tryz.results40 ?_)
       exact aC [] (.bool false) rfl (by simp only [fT, dX, h1_5, h1_9, h1_15, h1_21, h1_26, h1_31, h1_38, Bool.and_true, Bool.and_false, Bool.true_and, Bool.false_and]; try exact congrArg CV.bool h1_43.symm)
      have F := aI h1_5 (aI h1_9 (aI h1_15 (aI h1_21 (aI h1_26 h1_31))))
      iterate 12 refine SF ?_
      refine T2 (hK _ _ _ ?_)
      clear hK K
      refine aD (RT Tryz.results40 ?_)
      exact aC [] (.bool false) rfl (by simp only [fT, dX, h1_5, h1_9, h1_15, h1_21, h1_26, h1_31, Bool.and_true, Bool.and_false, Bool.true_and, Bool.false_and]; try exact congrArg CV.bool h1_43.symm)
     have F := aI h1_5 (aI h1_9 (aI h1_15 (aI h1_21 h1_26)))
     iterate 17 refine SF ?_
     refine T2 (hK _ _ _ ?_)
     clear hK K
     refine aD (RT Tryz.results40 ?_)
     exact aC [] (.bool false) rfl (by simp only [fT, dX, h1_5, h1_9, h1_15, h1_21, h1_26, Bool.and_true, Bool.and_false, Bool.true_and, Bool.false_and]; try exact congrArg CV.bool h1_43.symm)
    have F := aI h1_5 (aI h1_9 (aI h1_15 h1_21))
    iterate 22 refine SF ?_
    refine T2 (hK _ _ _ ?_)
    clear hK K
    refine aD (RT Tryz.results40 ?_)
    exact aC [] (.bool false) rfl (by simp only [fT, dX, h1_5, h1_9, h1_15, h1_21, Bool.and_true, Bool.and_false, Bool.true_and, Bool.false_and]; try exact congrArg CV.bool h1_43.symm)
   have F := aI h1_5 (aI h1_9 h1_15)
   iterate 28 refine SF ?_
   refine T2 (hK _ _ _ ?_)
   clear hK K
   refine aD (RT Tryz.results40 ?_)
   exact aC [] (.bool false) rfl (by simp only [fT, dX, h1_5, h1_9, h1_15, Bool.and_true, Bool.and_false, Bool.true_and, Bool.false_and]; try exact congrArg CV.bool h1_43.symm)
  have F := aI h1_5 h1_9
  iterate 34 refine SF ?_
  refine T2 (hK _ _ _ ?_)
  clear hK K
  refine aD (RT Tryz.results40 ?_)
  exact aC [] (.bool false) rfl (by simp only [fT, dX, h1_5, h1_9, Bool.and_true, Bool.and_false, Bool.true_and, Bool.false_and]; try exact congrArg CV.bool h1_43.symm)
 have F := h1_5
 iterate 39 refine SF ?_
 refine T2 (hK _ _ _ ?_)
 clear hK K
 refine aD (RT Tryz.results40 ?_)
 exact aC [] (.bool false) rfl (by simp only [fT, dX, h1_5, Bool.and_true, Bool.and_false, Bool.true_and, Bool.false_and]; try exact congrArg CV.bool h1_43.symm)


theorem bR8 (hid : ∀ p : Pk, aW Tryz.prog 81 [p.cv] (fun v => v = dg (pid p))) (l : List Ky) (hl : l.length < 2 ^ 40) (hw : ∀ k ∈ l, kSz k) : aW Tryz.prog 33 [.slc (l.map Ky.cv)] (fun v => v = .bool (gJ l)) := by
 refine FW Tryz.func33 ?_
 refine R0 ?_
 refine aB fun K hK => ?_
 refine R0 ?_
 refine aH ?_
 refine aT (α := {i : Nat // i ≤ l.length ∧ GoodTo tT (fun a b => dlt (kid a) (kid b)) l i}) (fun i => (fin [(0, .c (.slc (l.map Ky.cv))), (5, .c (.slc (l.map Ky.cv))), (6, .c (.int .i64 l.length)), (7, .c (.int .i64 i.1))], fob [])) 100 (fun i => l.length - i.1) ⟨0, by omega, GoodTo.zero⟩ (fF) ?_
 rintro ⟨i, hi, h0⟩
 refine R0 ?_
 refine aB fun K hK => ?_
 refine aJ (b := decide ((i : Int) < l.length)) rfl (fun hb => ?_) (fun hb => ?_)
 ·
  have hlt : i < l.length := by simpa using hb
  have hi1 : i - 1 < l.length := by omega
  have hm : decide ((0 : Int) < (i : Int)) = true → IntKind.i64.wrap ((i : Int) - 1) = ((i - 1 : Nat) : Int) := fun h => by
   have : 0 < i := by simpa using h
   rw [IntWalk.i64_in _ (by omega)]; omega
  have hk := hw _ (List.getElem_mem hlt)
  refine aG ?_
  refine T0 (hK _ _ _ ?_)
  clear hK K
  refine aB fun K hK => ?_
  refine aH ?_
  refine aB fun K hK => Rg ?_
  have F := aI @Int.natCast_nonneg (aI @Int.ofNat_lt (aI hlt (nM hlt)))
  iterate 6 refine SF ?_
  refine T2 (hK _ _ _ ?_)
  clear hK K
  refine aB fun K hK => ?_
  refine aB fun K hK => Rg ?_
  iterate 2 refine S0 ?_
  refine HS rfl rfl fun K' hK' => T5 ?_
  refine C1 (aX6 l[i].p) ?_
  rintro u rfl
  refine AX (hK' _ _ ?_)
  clear hK' K'
  iterate 2 refine S0 ?_
  refine aE 14 rfl (fun h4_14 => ?_) (fun h4_14 => ?_)
  ·
   have F := h4_14
   iterate 2 refine SF ?_
   refine aZ (g := some (16, false)) rfl rfl fun K' hK' => T6 ?_
   refine C1 (zZ l[i].o hk.1) ?_
   rintro u rfl
   refine AX (hK' _ _ ?_)
   clear hK' K'
   iterate 3 refine SF ?_
   refine aE 19 rfl (fun h4_19 => ?_) (fun h4_19 => ?_)
   ·
    have F := aI h4_14 h4_19
    iterate 6 refine SF ?_
    refine aE 26 rfl (fun h4_26 => ?_) (fun h4_26 => ?_)
    ·
     have F := aI h4_14 (aI h4_19 h4_26)
     iterate 11 refine SF ?_
     refine T2 (hK _ _ _ ?_)
     clear hK K
     refine CT rfl ?_
     refine R0 ?_
     refine aD (RT Tryz.results33 ?_)
     exact aC [] (.bool false) rfl (by rw [dK, cX hlt (by simp only [dP, h4_14, h4_19, h4_26, Bool.not_true, Bool.not_false, Bool.false_and, Bool.and_false]), Bool.false_and])
    have F := aI h4_14 (aI h4_19 h4_26)
    iterate 6 refine SF ?_
    refine aE 32 rfl (fun h4_32 => ?_) (fun h4_32 => ?_)
    ·
     have F := aI h4_14 (aI h4_19 (aI h4_26 h4_32))
     iterate 5 refine SF ?_
     refine T2 (hK _ _ _ ?_)
     clear hK K
     refine CT rfl ?_
     refine R0 ?_
     refine aD (RT Tryz.results33 ?_)
     exact aC [] (.bool false) rfl (by rw [dK, cX hlt (by simp only [dP, h4_14, h4_19, h4_26, h4_32, Bool.not_true, Bool.not_false, Bool.false_and, Bool.and_false]), Bool.false_and])
    have F := aI h4_14 (aI h4_19 (aI h4_26 h4_32))
    iterate 2 refine SF ?_
    refine aZ (g := some (34, false)) rfl rfl fun K' hK' => T6 ?_
    refine C1 (bK1 l[i].rs hk.2.1 hk.2.2) ?_
    rintro u rfl
    refine AX (hK' _ _ ?_)
    clear hK' K'
    iterate 2 refine SF ?_
    refine aE 37 rfl (fun h4_37 => ?_) (fun h4_37 => ?_)
    ·
     simp only [h4_37]
     refine T2 (hK _ _ _ ?_)
     clear hK K
     refine CF rfl ?_
     refine aG ?_
     refine T0 (hK _ _ _ ?_)
     clear hK K
     refine aB fun K hK => ?_
     refine aB fun K hK => Rg ?_
     have F := aI h4_14 (aI h4_19 (aI h4_26 (aI h4_32 h4_37)))
     iterate 2 refine SF ?_
     refine HS rfl rfl fun K' hK' => T6 ?_
     refine C2 (jX 0 l[i].fr) ?_
     rintro u rfl
     refine AX (hK' _ _ ?_)
     clear hK' K'
     iterate 2 refine SF ?_
     refine aE 42 rfl (fun h6_42 => ?_) (fun h6_42 => ?_)
     ·
      have F := aI h4_14 (aI h4_19 (aI h4_26 (aI h4_32 (aI h4_37 h6_42))))
      iterate 2 refine SF ?_
      refine aZ (g := some (44, false)) rfl rfl fun K' hK' => T6 ?_
      refine C2 (jX 0 l[i].un) ?_
      rintro u rfl
      refine AX (hK' _ _ ?_)
      clear hK' K'
      iterate 3 refine SF ?_
      refine aE 47 rfl (fun h6_47 => ?_) (fun h6_47 => ?_)
      ·
       have F := aI h4_14 (aI h4_19 (aI h4_26 (aI h4_32 (aI h4_37 (aI h6_42 h6_47)))))
       iterate 6 refine SF ?_
       refine aE 55 rfl (fun h6_55 => ?_) (fun h6_55 => ?_)
       ·
        simp only [h6_55]
        refine T2 (hK _ _ _ ?_)
        clear hK K
        refine CT rfl ?_
        refine R0 ?_
        refine aD (RT Tryz.results33 ?_)
        exact aC [] (.bool false) rfl (by rw [dK, cX hlt (by simp only [dP, h4_14, h4_19, h4_26, h4_32, h4_37, h6_42, h6_47, h6_55, Bool.not_true, Bool.not_false, Bool.false_and, Bool.and_false]), Bool.false_and])
       simp only [h6_55]
       refine T2 (hK _ _ _ ?_)
       clear hK K
       refine CF rfl ?_
       refine aG ?_
       refine T0 (hK _ _ _ ?_)
       clear hK K
       refine aB fun K hK => DW [(0, [], []), (1, [], []), (2, [], []), (3, [], []), (4, [], []), (5, [], []), (6, [], []), (7, [], []), (8, [], []), (10, [], []), (11, [], []), (9, [], [10, 11]), (12, [], []), (13, [], []), (14, [], []), (15, [], [])] [0, 1, 3, 7, 7, 23, 63, 127, 255, 511, 7, 1031, 4095, 8191, 16383, 32767] ?_
       iterate 3 refine W0 ?_ (e := fun _ h_ => by simp only [sH, ↓sP, sA, tyS, simprocAttr, hm, Int.natCast_nonneg, Int.ofNat_lt, hi1, aO hi1, h4_14, h4_19, h4_26, h4_32, h4_37, h6_42, h6_47, h6_55]; exact AX h_)
       refine bD 58 rfl (fun h8_58 => ?_) (fun h8_58 => ?_)
       ·
        iterate 8 refine W0 ?_ (e := fun _ h_ => by simp only [sH, ↓sP, sA, tyS, simprocAttr, hm, Int.natCast_nonneg, Int.ofNat_lt, hi1, aO hi1, h4_14, h4_19, h4_26, h4_32, h4_37, h6_42, h6_47, h6_55, h8_58]; exact AX h_)
        refine aN (g := some (59, true)) rfl rfl fun K' hK' => ?_
        simp only [sH, ↓sP, sA, tyS, simprocAttr, hm, Int.natCast_nonneg, Int.ofNat_lt, hi1, aO hi1, h4_14, h4_19, h4_26, h4_32, h4_37, h6_42, h6_47, h6_55, h8_58]
        refine C1 (hid l[i - 1].p) ?_
        rintro u rfl
        refine AX (hK' _ _ ?_)
        clear hK' K'
        refine aN (g := some (59, true)) rfl rfl fun K' hK' => ?_
        simp only [sH, ↓sP, sA, tyS, simprocAttr, hm, Int.natCast_nonneg, Int.ofNat_lt, hi1, aO hi1, h4_14, h4_19, h4_26, h4_32, h4_37, h6_42, h6_47, h6_55, h8_58]
        refine C1 (hid l[i].p) ?_
        rintro u rfl
        refine AX (hK' _ _ ?_)
        clear hK' K'
        refine aN (g := some (59, true)) rfl rfl fun K' hK' => ?_
        simp only [sH, ↓sP, sA, tyS, simprocAttr, hm, Int.natCast_nonneg, Int.ofNat_lt, hi1, aO hi1, h4_14, h4_19, h4_26, h4_32, h4_37, h6_42, h6_47, h6_55, h8_58]
        refine C2 (aJ2 (pid l[i - 1].p) (pid l[i].p)) ?_
        rintro u rfl
        refine AX (hK' _ _ ?_)
        clear hK' K'
        iterate 2 refine W0 ?_ (e := fun _ h_ => by simp only [sH, ↓sP, sA, tyS, simprocAttr, hm, Int.natCast_nonneg, Int.ofNat_lt, hi1, aO hi1, h4_14, h4_19, h4_26, h4_32, h4_37, h6_42, h6_47, h6_55, h8_58]; exact AX h_)
        refine bD 71 rfl (fun h8_71 => ?_) (fun h8_71 => ?_)
        ·
         simp only [h8_71]
         refine T2 (hK _ _ _ ?_)
         clear hK K
         refine CT rfl ?_
         refine R0 ?_
         refine aD (RT Tryz.results33 ?_)
         obtain ⟨j, rfl⟩ : ∃ j, i = j + 1 := ⟨i - 1, by simp at h8_58; omega⟩
         exact aC [] (.bool false) rfl (by rw [dK, kZ (i := j) hlt (by rw [sG, Bool.not_eq_true'] at h8_71; exact h8_71), Bool.false_and])
        simp only [h8_71]
        refine T2 (hK _ _ _ ?_)
        clear hK K
        refine CF rfl ?_
        refine aG ?_
        refine T0 (hK _ _ _ ?_)
        clear hK K
        refine aM (by kernel_rfl) ?_
        refine TQ (bK i) ?_
        obtain ⟨j, rfl⟩ : ∃ j, i = j + 1 := ⟨i - 1, by simp at h8_58; omega⟩
        refine ⟨⟨j + 1 + 1, hlt, h0.succ hlt (by simp only [dP, h4_14, h4_19, h4_26, h4_32, h4_37, h6_42, h6_47, h6_55, h8_58, h8_71]; rfl) (by rw [sG, Bool.not_eq_false'] at h8_71; exact h8_71)⟩, fF, ?_⟩
        show l.length - (j + 1 + 1) < l.length - (j + 1)
        omega
       iterate 13 refine W0 ?_ (e := fun _ h_ => by simp only [sH, ↓sP, sA, tyS, simprocAttr, hm, Int.natCast_nonneg, Int.ofNat_lt, hi1, aO hi1, h4_14, h4_19, h4_26, h4_32, h4_37, h6_42, h6_47, h6_55, h8_58]; exact AX h_)
       refine T2 (hK _ _ _ ?_)
       clear hK K
       refine CF rfl ?_
       refine aG ?_
       refine T0 (hK _ _ _ ?_)
       clear hK K
       refine aM (by kernel_rfl) ?_
       refine TQ (bK i) ?_
       obtain rfl : i = 0 := by simp at h8_58; omega
       refine ⟨⟨1, hlt, GoodTo.one hlt (by simp only [dP, h4_14, h4_19, h4_26, h4_32, h4_37, h6_42, h6_47, h6_55, h8_58]; rfl)⟩, fF, ?_⟩
       show l.length - 1 < l.length - 0
       omega
      have F := aI h4_14 (aI h4_19 (aI h4_26 (aI h4_32 (aI h4_37 (aI h6_42 h6_47)))))
      iterate 6 refine SF ?_
      refine T2 (hK _ _ _ ?_)
      clear hK K
      refine CT rfl ?_
      refine R0 ?_
      refine aD (RT Tryz.results33 ?_)
      exact aC [] (.bool false) rfl (by rw [dK, cX hlt (by simp only [dP, h4_14, h4_19, h4_26, h4_32, h4_37, h6_42, h6_47, Bool.not_true, Bool.not_false, Bool.false_and, Bool.and_false]), Bool.false_and])
     have F := aI h4_14 (aI h4_19 (aI h4_26 (aI h4_32 (aI h4_37 h6_42))))
     iterate 12 refine SF ?_
     refine T2 (hK _ _ _ ?_)
     clear hK K
     refine CT rfl ?_
     refine R0 ?_
     refine aD (RT Tryz.results33 ?_)
     exact aC [] (.bool false) rfl (by rw [dK, cX hlt (by simp only [dP, h4_14, h4_19, h4_26, h4_32, h4_37, h6_42, Bool.not_true, Bool.not_false, Bool.false_and, Bool.and_false]), Bool.false_and])
    simp only [h4_37]
    refine T2 (hK _ _ _ ?_)
    clear hK K
    refine CT rfl ?_
    refine R0 ?_
    refine aD (RT Tryz.results33 ?_)
    exact aC [] (.bool false) rfl (by rw [dK, cX hlt (by simp only [dP, h4_14, h4_19, h4_26, h4_32, h4_37, Bool.not_true, Bool.not_false, Bool.false_and, Bool.and_false]), Bool.false_and])
   have F := aI h4_14 h4_19
   iterate 17 refine SF ?_
   refine T2 (hK _ _ _ ?_)
   clear hK K
   refine CT rfl ?_
   refine R0 ?_
   refine aD (RT Tryz.results33 ?_)
   exact aC [] (.bool false) rfl (by rw [dK, cX hlt (by simp only [dP, h4_14, h4_19, Bool.not_true, Bool.not_false, Bool.false_and, Bool.and_false]), Bool.false_and])
  have F := h4_14
  iterate 23 refine SF ?_
  refine T2 (hK _ _ _ ?_)
  clear hK K
  refine CT rfl ?_
  refine R0 ?_
  refine aD (RT Tryz.results33 ?_)
  exact aC [] (.bool false) rfl (by rw [dK, cX hlt (by simp only [dP, h4_14, Bool.not_true, Bool.not_false, Bool.false_and, Bool.and_false]), Bool.false_and])
 refine aS (T3 ?_)
 clear hK K
 refine AX (hK _ _ _ ?_)
 clear hK K
 refine aB fun K hK => Rg ?_
 iterate 4 refine S0 ?_
 refine T2 (hK _ _ _ ?_)
 clear hK K
 refine aD (RT Tryz.results33 ?_)
 have hei : i = l.length := by simp at hb; omega
 subst hei
 refine aC [] (.bool _) rfl ?_
 rw [dK, h0.all, Bool.true_and]
 congr 1
 exact decide_eq_decide.2 (by omega)


theorem bR9 (l : List Dig) (d : Dig) (hl : l.length < 2 ^ 40) : aW Tryz.prog 53 [.slc (l.map dg), dg d] (fun v => ∃ l' : List Dig, v = .slc (l'.map dg) ∧ l'.length ≤ l.length + 1) := by
 refine FW Tryz.func53 ?_
 refine R0 ?_
 refine aB fun K hK => ?_
 refine aB fun K hK => Rg ?_
 iterate 2 refine S0 ?_
 refine HS rfl rfl fun K' hK' => T5 ?_
 refine C2 (bO9 l d hl) ?_
 rintro u rfl
 refine AX (hK' _ _ ?_)
 clear hK' K'
 refine T2 (hK _ _ _ ?_)
 clear hK K
 refine aJ (b := l.contains d) rfl (fun hb => ?_) (fun hb => ?_)
 ·
  refine R0 ?_
  refine aD (RT Tryz.results53 ?_)
  exact aC [] (.slc (l.map dg)) (by simp [HV.close, CV.denil, denilL_dg, HV.norm, HV.toC]) ⟨l, rfl, by omega⟩
 refine aG ?_
 refine T0 (hK _ _ _ ?_)
 clear hK K
 refine R0 ?_
 refine R0 ?_
 refine aB fun K hK => ?_
 refine aH ?_
 refine eH 5 0 49 32 rfl rfl rfl rfl ?_
 refine aT (α := {i : Nat // i ≤ l.length}) (fun i => (fin [(0, .c (.slc (l.map dg))), (3, .ptr 0 0), (5, .own 28 i.1), (6, .c (.int .i64 i.1))], fob [(0, .box 49 (.c (dg d))), (28, .row 49 32 ((l.take i.1).map dg))])) 100 (fun i => l.length - i.1) ⟨0, by omega⟩ (fF) ?_
 rintro ⟨i, hi⟩
 have hti : (l.take i).length = i := by simp; omega
 have hlc : decide ((i : Int) < (l.length : Int)) = true → i < l.length := fun h => by simpa using h
 refine aB fun K hK => ?_
 by_cases hlt : i < l.length
 ·
  refine aB fun K hK => DW [(0, [], []), (1, [], []), (2, [], []), (3, [], []), (4, [], []), (5, [], []), (6, [], []), (7, [], []), (8, [], []), (9, [], []), (10, [], []), (11, [], [])] [0, 0, 2, 7, 15, 31, 31, 127, 255, 31, 1023, 2047] ?_
  have F := aI @Int.natCast_nonneg (aI @Int.ofNat_lt (aI hlt (nM hlt)))
  iterate 10 refine WF ?_
  refine aN (g := some (15, true)) rfl rfl fun K' hK' => T6 ?_
  refine C2 (pM l[i] d) ?_
  rintro u rfl
  refine AX (hK' _ _ ?_)
  clear hK' K'
  refine WF ?_
  refine T2 (hK _ _ _ ?_)
  clear hK K
  refine aJ (b := dlt l[i] d) rfl (fun hb => ?_) (fun hb => ?_)
  ·
   refine aG ?_
   refine T0 (hK _ _ _ ?_)
   clear hK K
   refine aH ?_
   refine aB fun K hK => Rg ?_
   have F := aI @Int.natCast_nonneg (aI @Int.ofNat_lt (aI hlt (aI (nM hlt) (aI hti @List.length_append.{0}))))
   iterate 8 refine SF ?_
   refine T2 (hK _ _ _ ?_)
   clear hK K
   refine aM (by kernel_rfl) ?_
   refine TQ (bK i) ?_
   refine ⟨⟨i + 1, by omega⟩, aQ (by omega) ?_ ?_, ?_⟩
   ·
    simp [aX, upd_at, fin_at, HV.men]
   ·
    refine ⟨rfl, by omega, trivial, ?_, by omega, trivial, trivial⟩
    simp only [List.take_succ_eq_append_getElem hlt, List.map_append]
    rfl
   show l.length - (i + 1) < l.length - i
   omega
  refine aS (T3 ?_)
  clear hK K
  refine AX (hK _ _ _ ?_)
  clear hK K
  refine aB fun K hK => DW [(0, [], []), (1, [], []), (2, [], []), (4, [2], []), (5, [2], []), (6, [2], []), (3, [], [4, 5, 6]), (7, [], []), (8, [], [])] [0, 0, 2, 7, 0, 0, 48, 127, 255] ?_
  iterate 9 refine W0 ?_ (e := fun _ h_ => by simp only [sH, ↓sP, sA, tyS, simprocAttr, hti, ← List.map_drop, ← List.map_take, aE9]; exact AX h_)
  refine T2 (hK _ _ _ ?_)
  clear hK K
  refine aD (RT Tryz.results53 ?_)
  refine aC [28] (.slc ((l.take i ++ d :: l.drop i).map dg)) ?_ ⟨_, rfl, ?_⟩
  ·
   simp [HV.close, upd_at, HV.norm, HV.toC, List.take_of_length_le]
  simp; omega
 refine aB fun K hK => DW [(0, [], []), (1, [], []), (2, [], []), (3, [], []), (4, [], []), (5, [], []), (6, [], []), (7, [], []), (8, [], []), (9, [], []), (10, [], []), (11, [], [])] [0, 0, 2, 7, 15, 31, 31, 127, 255, 31, 1023, 2047] ?_
 have F := aI @Int.ofNat_lt hlt
 iterate 12 refine WF ?_
 refine T2 (hK _ _ _ ?_)
 clear hK K
 refine aJ (b := _) rfl (fun hb => ?_) (fun hb => ?_)
 ·
  cases hb
 refine aS (T3 ?_)
 clear hK K
 refine AX (hK _ _ _ ?_)
 clear hK K
 refine aB fun K hK => DW [(0, [], []), (1, [], []), (2, [], []), (4, [2], []), (5, [2], []), (6, [2], []), (3, [], [4, 5, 6]), (7, [], []), (8, [], [])] [0, 0, 2, 7, 0, 0, 48, 127, 255] ?_
 iterate 9 refine W0 ?_ (e := fun _ h_ => by simp only [sH, ↓sP, sA, tyS, simprocAttr, hti, ← List.map_drop, ← List.map_take, aE9]; exact AX h_)
 refine T2 (hK _ _ _ ?_)
 clear hK K
 refine aD (RT Tryz.results53 ?_)
 refine aC [28] (.slc ((l.take i ++ d :: l.drop i).map dg)) ?_ ⟨_, rfl, ?_⟩
 ·
  simp [HV.close, upd_at, HV.norm, HV.toC, List.take_of_length_le]
 simp; omega

end Go.Proofs.YtenbfeemmpjdhaaGreatDoor

namespace Go.Hl
open Go

def bV0 (P : Program) (f : FuncId) (T : TypeId) (v : CV) (args : List CV) (R : CV → Prop) : Prop :=
 HFn P f (.ptr 0 0 :: args.map .c) 1 (fob [(0, .box T (.c v))]) (fun r ob' => ∃ v', r = .tup [] ∧ ob' = fob [(0, .box T (.c v'))] ∧ R v')
theorem bA4 {ob : Ob} {r w : HV} {T : TypeId} {R : CV → Prop} (cl : List Nat) (v' : CV) (h : (r.close ob cl).norm = .tup []) (hb : ob 0 = some (.box T w)) (hw : (w.close ob cl).norm = .c v') (h0 : 0 ∉ cl) (hR : R v') :
  rW 1 r ob (fun r ob' => ∃ v', r = .tup [] ∧ ob' = fob [(0, .box T (.c v'))] ∧ R v') := by
 refine ⟨cl, id, .tup [], fob [(0, .box T (.c v'))], ⟨v', rfl, rfl, hR⟩, by rw [h]; simp only [HV.ren, HV.renL], fun _ _ => rfl, fun _ _ _ _ h => h, by simp [HV.men, HV.menL], fun j o ho => ?_⟩
 by_cases e : j = 0
 ·
  subst e
  simp only [fob_at, if_true, Option.some.injEq] at ho
  subst ho
  refine ⟨by omega, by simp [HO.men, HV.men], h0, .box T w, hb, ?_⟩
  simp only [hw]
  rfl
 ·
  simp [fob_at, fob_nil, e] at ho

theorem yI {P : Program} {av : List Nat} {f : FuncId} {ob : Ob} {nid id : Nat} {K : HV → Ob → Prop} {T : TypeId} {v : CV} {args : List CV} {R : CV → Prop} (h : bV0 P f T v args R) (hid : ob id = some (.box T (.c v))) (hav : id ∉ av)
  (hfree : ob nid = none ∧ ob (nid + 1) = none ∧ ob (nid + 2) = none ∧ ob (nid + 3) = none) (hK : ∀ v', R v' → K (.tup []) (upd ob id (some (.box T (.c v'))))) :
  HCall P av f (.ptr id 0 :: args.map .c) ob nid K := by
 refine ⟨[id], .ptr 0 0 :: args.map .c, _, _, h, fW T v args, ⟨by simp, by simpa using hav⟩, ?_, fun j o hj => ?_, fun r lob' hR _ => ?_⟩
 ·
  simp only [HV.renL, HV.ren, HV.renL_c]
  rfl
 ·
  by_cases e : j = 0
  ·
   subst e
   simp only [fob_at, if_true, Option.some.injEq] at hj
   subst hj
   simpa [HO.ren, HV.ren] using hid
  ·
   simp [fob_at, fob_nil, e] at hj
 ·
  obtain ⟨v', rfl, rfl, hR⟩ := hR
  have e : bG ob [id] nid (fob [(0, .box T (.c v'))]) = upd ob id (some (.box T (.c v'))) := by
   funext i
   by_cases e : i = id
   ·
    subst e
    simp only [bG, aR, List.findIdx?_cons, beq_self_eq_true, if_true, fob_at, Option.map_some]
    rfl
   ·
    have e' : (id == i) = false := by simp; exact fun h => e h.symm
    simp only [bG, List.findIdx?_cons, e', List.findIdx?_nil, Option.map_none, aV _ _ e]
    simp only [Bool.false_eq_true, if_false]
    split
    ·
     rename_i hr
     have h1 : [id].length + (i - nid) ≠ 0 := by simp
     rw [fob_at, if_neg h1, fob_nil]
     have : i = nid ∨ i = nid + 1 ∨ i = nid + 2 ∨ i = nid + 3 := by omega
     rcases this with rfl | rfl | rfl | rfl
     ·
      exact hfree.1.symm
     ·
      exact hfree.2.1.symm
     ·
      exact hfree.2.2.1.symm
     ·
      exact hfree.2.2.2.symm
    ·
     rfl
  rw [e]
  exact hK v' hR
end Go.Hl

namespace Go.Proofs.YtenbfeemmpjdhaaGreatDoor
open Go Go.Hl Go.Pl
set_option maxRecDepth 10000
set_option maxHeartbeats 16000000

theorem gF (x : W32) (n : Nat) (h0 : 0 < n) (hn : n < 32) : aW Tryz.prog 168 [.int .u32 (x.toNat : Int), .int .i64 (-(n : Int))] (fun v => v = .int .u32 ((fR x n).toNat : Int)) := by
 have e1 := bN2 ⟨n, hn⟩ h0
 have e2 : IntKind.u64.wrap (32 - ((32 - n : Nat) : Int)) = (n : Int) := by rw [IntWalk.u64_in _ (by omega)]; omega
 have e3 : 32 - n ≤ 32 := by omega
 have e4 : n ≤ 32 := by omega
 refine FW Tryz.func168 ?_
 refine R0 ?_
 refine aB fun K hK => Rg ?_
 have F := e1
 iterate 4 refine SF ?_
 refine T2 (hK _ _ _ ?_)
 clear hK K
 refine aB fun K hK => Rg ?_
 have F := aI e2 (aI e3 (aI e4 (aI @Int.natCast_nonneg (aI @aR3 (aI @tP (aI @bM8 @cB6))))))
 iterate 9 refine SF ?_
 refine T2 (hK _ _ _ ?_)
 clear hK K
 refine aD (RT Tryz.results168 ?_)
 exact aC [] (.int .u32 _) rfl rfl


theorem jB (x : W32) (n : Nat) (h0 : 0 < n) (hn : n < 32) : aW Tryz.prog 149 [.int .u32 (x.toNat : Int), .int .i64 (n : Int)] (fun v => v = .int .u32 ((fR x n).toNat : Int)) := by
 have e1 : IntKind.u64.wrap (n : Int) = (n : Int) := IntWalk.u64_in _ (by omega)
 have e2 : IntKind.i64.wrap (32 - (n : Int)) = ((32 - n : Nat) : Int) := by rw [IntWalk.i64_in _ (by omega)]; omega
 have e5 : IntKind.u64.wrap ((32 - n : Nat) : Int) = ((32 - n : Nat) : Int) := IntWalk.u64_in _ (by omega)
 have e3 : 32 - n ≤ 32 := by omega
 have e4 : n ≤ 32 := by omega
 refine FW Tryz.func149 ?_
 refine R0 ?_
 refine aB fun K hK => Rg ?_
 have F := aI e1 (aI e2 (aI e3 (aI e4 (aI e5 (aI @Int.natCast_nonneg (aI @aR3 (aI @tP @bM8)))))))
 iterate 11 refine SF ?_
 refine T2 (hK _ _ _ ?_)
 clear hK K
 refine aD (RT Tryz.results149 ?_)
 exact aC [] (.int .u32 _) rfl rfl


theorem bA5 : aW Tryz.prog 136 [] (fun v => v = ws K256) := by
 refine FW Tryz.func136 ?_
 refine R0 ?_
 refine aB fun K hK => Rg ?_
 have F := aI (iW oT) (aI (cO (gZ 64)) @oT)
 refine HS rfl rfl fun K' hK' => T6 ?_
 rw [gQ (n := 64) K256 rfl rfl]
 refine AX (hK' _ _ ?_)
 clear hK' K'
 refine SF ?_
 refine T2 (hK _ _ _ ?_)
 clear hK K
 refine aD ?_
 simp only [cJ, Tryz.results136, cC, cI, bW, ↓sP, sA, tyS, simprocAttr]
 exact aC [] (ws K256) rfl rfl


theorem aA3 : aW Tryz.prog 150 [] (fun v => v = ws K256) := by
 refine FW Tryz.func150 ?_
 refine R0 ?_
 refine aB fun K hK => Rg ?_
 have F := aI (iW oT) (aI (cO (gZ 64)) @oT)
 refine HS rfl rfl fun K' hK' => T6 ?_
 rw [gQ (n := 64) K256 rfl rfl]
 refine AX (hK' _ _ ?_)
 clear hK' K'
 refine SF ?_
 refine T2 (hK _ _ _ ?_)
 clear hK K
 refine aD (RT Tryz.results150 ?_)
 exact aC [] (ws K256) rfl rfl


end Go.Proofs.YtenbfeemmpjdhaaGreatDoor

namespace Go.Proofs.YtenbfeemmpjdhaaGreatDoor
open Go Go.Hl Go.Pl
set_option maxRecDepth 10000
set_option maxHeartbeats 16000000

theorem aJ3 (b : List UInt8) (hbl : b.length = 64) : aW Tryz.prog 167 [.slc (b.map u8)] (fun v => v = ws (eO b)) := by
 refine FW Tryz.func167 ?_
 refine R0 ?_
 refine R0 ?_
 refine aB fun K hK => ?_
 refine R0 ?_
 refine aH ?_
 refine aT (α := {i : Nat // i ≤ 16}) (fun i => (fin [(0, .c (.slc (b.map u8))), (2, .ptr 0 0), (3, .ptr 4 0), (10, .c (.int .i64 i.1))], fob [(0, .box 161 (.c (ws (wz 64)))), (4, .box 161 (.c (ws (wA b i.1))))])) 100 (fun i => 16 - i.1) ⟨0, by omega⟩ (fF) ?_
 rintro ⟨i, hi⟩
 have hlen := tR b i
 refine R0 ?_
 refine aB fun K hK => ?_
 refine aJ (b := decide ((i : Int) < 16)) rfl (fun hb => ?_) (fun hb => ?_)
 ·
  have hlt : i < 16 := by simp at hb; omega
  have z : (i : Int) < 64 := by omega
  have q : i < 64 := by omega
  have q0 : 4 * i < 64 := by omega
  have q1 : 4 * i + 1 < 64 := by omega
  have q2 : 4 * i + 2 < 64 := by omega
  have q3 : 4 * i + 3 < 64 := by omega
  have z0 : ((4 * i : Nat) : Int) < 64 := by omega
  have z1 : ((4 * i + 1 : Nat) : Int) < 64 := by omega
  have z2 : ((4 * i + 2 : Nat) : Int) < 64 := by omega
  have z3 : ((4 * i + 3 : Nat) : Int) < 64 := by omega
  have m0 : IntKind.i64.wrap (4 * (i : Int)) = ((4 * i : Nat) : Int) := by rw [IntWalk.i64_in _ (by omega)]; omega
  have m1 : IntKind.i64.wrap (((4 * i : Nat) : Int) + 1) = ((4 * i + 1 : Nat) : Int) := by rw [IntWalk.i64_in _ (by omega)]; omega
  have m2 : IntKind.i64.wrap (((4 * i : Nat) : Int) + 2) = ((4 * i + 2 : Nat) : Int) := by rw [IntWalk.i64_in _ (by omega)]; omega
  have m3 : IntKind.i64.wrap (((4 * i : Nat) : Int) + 3) = ((4 * i + 3 : Nat) : Int) := by rw [IntWalk.i64_in _ (by omega)]; omega
  refine aG ?_
  refine T0 (hK _ _ _ ?_)
  clear hK K
  refine aB fun K hK => ?_
  refine aH ?_
  refine R0 ?_
  refine DW [(0, [], []), (1, [], []), (2, [], []), (3, [], []), (4, [], []), (5, [], []), (6, [], []), (7, [], []), (8, [], []), (9, [], []), (10, [], []), (11, [], []), (12, [], []), (13, [], []), (14, [], []), (15, [], []), (16, [], []), (17, [], []), (18, [], []), (19, [], []), (20, [], []), (21, [], []), (22, [], []), (23, [], []), (24, [], []), (25, [], []), (26, [], []), (27, [], []), (28, [], []), (29, [], []), (30, [], []), (31, [], []), (32, [], []), (33, [], []), (34, [], []), (35, [], [])] [0, 0, 0, 4, 14, 30, 62, 126, 0, 0, 512, 1536, 3840, 7936, 16128, 32512, 65534, 0, 0, 262144, 786432, 1966080, 4063232, 8257536, 16646144, 33554430, 0, 0, 134217728, 402653184, 1006632960, 2080374784, 4227858432, 8589934590, 17179869183, 34359738367] ?_
  iterate 36 refine W0 ?_ (e := fun _ h_ => by simp only [sH, ↓sP, sA, tyS, simprocAttr, m0, m1, m2, m3, q, q0, q1, q2, q3, z, z0, z1, z2, z3, hbl, hlen, Int.natCast_nonneg, bE9, Nat.mul_one, bD0, aR3, bM8, nD, fA]; exact AX h_)
  refine T2 (hK _ _ _ ?_)
  clear hK K
  refine aM (by kernel_rfl) ?_
  refine TQ (bK i) ?_
  refine ⟨⟨i + 1, hlt⟩, aQ (by omega) (by simp [aX, fin_at, finA_at, upd_at, HV.men, HV.menL, HV.norm, HV.toC, HV.toCL]) (by simp [bB, fob_at, upd_at, none0_at, bU, HO.men, HV.men, HV.menL, HV.norm, HV.toC, HV.toCL]; rfl), ?_⟩
  show 16 - (i + 1) < 16 - i
  omega
 refine aS (T3 ?_)
 clear hK K
 refine AX (hK _ _ _ ?_)
 clear hK K
 refine aB fun K hK => ?_
 refine R0 ?_
 refine aH ?_
 have hei : i = 16 := by simp at hb; omega
 subst hei
 clear hb hlen
 refine aT (α := {i : Nat // i ≤ 48}) (fun i => (fin [(0, .c (.slc (b.map u8))), (2, .ptr 0 0), (3, .ptr 4 0), (5, .c (.int .i64 ((i.1 + 16 : Nat) : Int)))], fob [(0, .box 161 (.c (ws (wz 64)))), (4, .box 161 (.c (ws (wB (wA b 16) i.1))))])) 100 (fun i => 48 - i.1) ⟨0, by omega⟩ (fF) ?_
 rintro ⟨i, hi⟩
 have hlen : (wB (wA b 16) i).length = 64 := by rw [aL3, tR]
 refine aB fun K hK => ?_
 refine R0 ?_
 refine aJ (b := decide (((i + 16 : Nat) : Int) < 64)) rfl (fun hb => ?_) (fun hb => ?_)
 ·
  have hlt : i < 48 := by simp at hb; omega
  have q0 : i < 64 := by omega
  have q1 : i + 1 < 64 := by omega
  have q2 : i + 14 < 64 := by omega
  have q3 : i + 9 < 64 := by omega
  have q4 : i + 16 < 64 := by omega
  have z0 : (i : Int) < 64 := by omega
  have z1 : ((i + 1 : Nat) : Int) < 64 := by omega
  have z2 : ((i + 14 : Nat) : Int) < 64 := by omega
  have z3 : ((i + 9 : Nat) : Int) < 64 := by omega
  have z4 : ((i + 16 : Nat) : Int) < 64 := by omega
  have m0 : IntKind.i64.wrap (((i + 16 : Nat) : Int) - 16) = (i : Int) := by rw [IntWalk.i64_in _ (by omega)]; omega
  have m1 : IntKind.i64.wrap (((i + 16 : Nat) : Int) - 15) = ((i + 1 : Nat) : Int) := by rw [IntWalk.i64_in _ (by omega)]; omega
  have m2 : IntKind.i64.wrap (((i + 16 : Nat) : Int) - 2) = ((i + 14 : Nat) : Int) := by rw [IntWalk.i64_in _ (by omega)]; omega
  have m3 : IntKind.i64.wrap (((i + 16 : Nat) : Int) - 7) = ((i + 9 : Nat) : Int) := by rw [IntWalk.i64_in _ (by omega)]; omega
  have m4 : IntKind.i64.wrap (((i + 16 : Nat) : Int) + 1) = ((i + 1 + 16 : Nat) : Int) := by rw [IntWalk.i64_in _ (by omega)]; omega
  refine aG ?_
  refine T0 (hK _ _ _ ?_)
  clear hK K
  refine aB fun K hK => ?_
  refine aH ?_
  refine aB fun K hK => QR ?_
  have F := aI m1 (aI m2 (aI q1 (aI q2 (aI z1 (aI z2 (aI hlen (aI @Int.natCast_nonneg (aI @Nat.mul_one @dE))))))))
  iterate 10 refine SF ?_
  refine T2 (hK _ _ _ ?_)
  clear hK K
  refine aB fun K hK => Rg ?_
  have F := aI @eT @tP
  refine SF ?_
  refine HS rfl rfl fun K' hK' => T6 ?_
  refine C2 (gF _ 7 (by omega) (by omega)) ?_
  rintro u rfl
  refine AX (hK' _ _ ?_)
  clear hK' K'
  refine SF ?_
  refine HS rfl rfl fun K' hK' => T6 ?_
  refine C2 (gF _ 18 (by omega) (by omega)) ?_
  rintro u rfl
  refine AX (hK' _ _ ?_)
  clear hK' K'
  iterate 5 refine SF ?_
  refine T2 (hK _ _ _ ?_)
  clear hK K
  refine aB fun K hK => Rg ?_
  refine SF ?_
  refine HS rfl rfl fun K' hK' => T6 ?_
  refine C2 (gF _ 17 (by omega) (by omega)) ?_
  rintro u rfl
  refine AX (hK' _ _ ?_)
  clear hK' K'
  refine SF ?_
  refine HS rfl rfl fun K' hK' => T6 ?_
  refine C2 (gF _ 19 (by omega) (by omega)) ?_
  rintro u rfl
  refine AX (hK' _ _ ?_)
  clear hK' K'
  iterate 5 refine SF ?_
  refine T2 (hK _ _ _ ?_)
  clear hK K
  refine DW [(0, [], []), (1, [], []), (2, [], []), (3, [], []), (4, [], []), (5, [], []), (6, [], []), (7, [], []), (8, [], []), (9, [], []), (10, [], []), (11, [], []), (12, [], []), (13, [], []), (14, [], []), (15, [], [])] [0, 0, 2, 6, 14, 0, 62, 0, 128, 384, 896, 2046, 0, 8190, 16383, 32767] ?_
  iterate 16 refine W0 ?_ (e := fun _ h_ => by simp only [sH, ↓sP, sA, tyS, simprocAttr, m0, m3, q0, q3, q4, z0, z3, z4, hlen, Int.natCast_nonneg, Nat.mul_one, dE, jK, nD, fA]; exact AX h_)
  refine T2 (hK _ _ _ ?_)
  clear hK K
  refine aM (by kernel_rfl) ?_
  refine TQ m4 ?_
  refine ⟨⟨i + 1, hlt⟩, aQ (by omega) (by simp [aX, fin_at, finA_at, upd_at, HV.men, HV.menL, HV.norm, HV.toC, HV.toCL]) (by simp [bB, fob_at, upd_at, none0_at, bU, HO.men, HV.men, HV.menL, HV.norm, HV.toC, HV.toCL]; rfl), ?_⟩
  show 48 - (i + 1) < 48 - i
  omega
 refine aS (T3 ?_)
 clear hK K
 refine AX (hK _ _ _ ?_)
 clear hK K
 have hei : i = 48 := by simp at hb; omega
 subst hei
 have F := aI hlen (aI @iW (aI @cO @gZ))
 refine RF ?_
 refine aD ?_
 simp only [cJ, Tryz.results167, cC, cI, bW, ↓sP, sA, tyS, simprocAttr]
 rw [xL]
 simp only [iW (kR b), Option.map_some]
 exact aC [] (ws (eO b)) (eD (eU _)) rfl

end Go.Proofs.YtenbfeemmpjdhaaGreatDoor

namespace Go.Proofs.YtenbfeemmpjdhaaGreatDoor
open Go Go.Hl Go.Pl
set_option maxRecDepth 10000
set_option maxHeartbeats 16000000

theorem yJ (s : St) (p : List UInt8) (hp : p.length = 64) : bV0 Tryz.prog 137 152 (ws s.l) [.rp (ws K256), .slc (p.map u8)] (fun v => v = ws (comp s p).l) := by
 refine bS Tryz.func137 rfl (by kernel_rfl) (fW _ _ _) (Nat.le_of_ble_eq_true rfl) ?_
 refine aB fun K hK => Rg ?_
 have F := aI @cO (aI @gZ (aI @kR @denilL_u8))
 refine SF ?_
 refine HS rfl rfl fun K' hK' => T6 ?_
 refine C1 (aJ3 p hp) ?_
 rintro u rfl
 refine AX (hK' _ _ ?_)
 clear hK' K'
 iterate 2 refine SF ?_
 refine T2 (hK _ _ _ ?_)
 clear hK K
 refine aB fun K hK => QR ?_
 iterate 20 refine S0 ?_ (e := fun _ h_ => by simp only [sH, ↓sP, sA, tyS, simprocAttr, dE, cM, jO, jP, jQ, jR, jS, jT, jU, jV, cL, Nat.mul_one, Int.natCast_nonneg]; exact AX h_)
 refine T2 (hK _ _ _ ?_)
 clear hK K
 refine aB fun K hK => QR ?_
 iterate 20 refine S0 ?_ (e := fun _ h_ => by simp only [sH, ↓sP, sA, tyS, simprocAttr, dE, cM, jO, jP, jQ, jR, jS, jT, jU, jV, cL, Nat.mul_one, Int.natCast_nonneg]; exact AX h_)
 refine T2 (hK _ _ _ ?_)
 clear hK K
 refine aB fun K hK => ?_
 refine R0 ?_
 refine aH ?_
 refine aT (α := {x : Nat × St // x.1 ≤ 64 ∧ x.2 = itN (rnd (eO p)) x.1 s}) (fun x => (fin [(0, .ptr 0 0), (1, .c (.rp (ws K256))), (6, .ptr 9 0), (7, .c (.int .u32 (x.1.2.a.toNat : Int))), (8, .c (.int .u32 (x.1.2.b.toNat : Int))), (9, .c (.int .u32 (x.1.2.c.toNat : Int))), (10, .c (.int .u32 (x.1.2.d.toNat : Int))), (11, .c (.int .u32 (x.1.2.e.toNat : Int))), (12, .c (.int .u32 (x.1.2.f.toNat : Int))), (13, .c (.int .u32 (x.1.2.g.toNat : Int))), (14, .c (.int .u32 (x.1.2.h.toNat : Int))), (54, .c (.int .i64 x.1.1))], fob [(0, .box 152 (.c (ws s.l))), (9, .box 161 (.c (ws (eO p))))])) 300 (fun x => 64 - x.1.1) ⟨(0, s), by omega, rfl⟩ (aQ (by omega) (by simp [aX, fin_at, finA_at, upd_at, HV.men, HV.menL, HV.norm, HV.toC, HV.toCL, w32]) (by simp [bB, fob_at, upd_at, none0_at, HO.men, HV.men, HV.menL, HV.norm, HV.toC, HV.toCL])) ?_
 rintro ⟨⟨i, S⟩, hi, hS⟩
 replace hi : i ≤ 64 := hi
 replace hS : S = itN (rnd (eO p)) i s := hS
 refine R0 ?_
 refine aB fun K hK => ?_
 refine aJ (b := decide ((i : Int) < 64)) rfl (fun hb => ?_) (fun hb => ?_)
 ·
  have hlt : i < 64 := by simp at hb; omega
  have z : (i : Int) < 64 := by omega
  refine aG ?_
  refine T0 (hK _ _ _ ?_)
  clear hK K
  refine aB fun K hK => ?_
  refine aH ?_
  refine R0 ?_
  refine aB fun K hK => QR ?_
  iterate 21 refine S0 ?_ (e := fun _ h_ => by simp only [sH, ↓sP, sA, tyS, simprocAttr, z, hlt, aR7, kR, dE, Nat.mul_one, Int.natCast_nonneg, jK, aR2, eT, bU1]; exact AX h_)
  refine T2 (hK _ _ _ ?_)
  clear hK K
  refine aB fun K hK => Rg ?_
  have F := aI @eT (aI @jK @bN3)
  iterate 2 refine SF ?_
  refine HS rfl rfl fun K' hK' => T6 ?_
  refine C2 (gF _ 6 (by omega) (by omega)) ?_
  rintro u rfl
  refine AX (hK' _ _ ?_)
  clear hK' K'
  refine SF ?_
  refine HS rfl rfl fun K' hK' => T6 ?_
  refine C2 (gF _ 11 (by omega) (by omega)) ?_
  rintro u rfl
  refine AX (hK' _ _ ?_)
  clear hK' K'
  iterate 2 refine SF ?_
  refine HS rfl rfl fun K' hK' => T6 ?_
  refine C2 (gF _ 25 (by omega) (by omega)) ?_
  rintro u rfl
  refine AX (hK' _ _ ?_)
  clear hK' K'
  iterate 3 refine SF ?_
  refine T2 (hK _ _ _ ?_)
  clear hK K
  refine aB fun K hK => Rg ?_
  have F := aI @aR2 @eT
  iterate 12 refine SF ?_
  refine T2 (hK _ _ _ ?_)
  clear hK K
  refine aB fun K hK => Rg ?_
  have F := aI @eT (aI @jK @bN4)
  iterate 2 refine SF ?_
  refine HS rfl rfl fun K' hK' => T6 ?_
  refine C2 (gF _ 2 (by omega) (by omega)) ?_
  rintro u rfl
  refine AX (hK' _ _ ?_)
  clear hK' K'
  refine SF ?_
  refine HS rfl rfl fun K' hK' => T6 ?_
  refine C2 (gF _ 13 (by omega) (by omega)) ?_
  rintro u rfl
  refine AX (hK' _ _ ?_)
  clear hK' K'
  iterate 2 refine SF ?_
  refine HS rfl rfl fun K' hK' => T6 ?_
  refine C2 (gF _ 22 (by omega) (by omega)) ?_
  rintro u rfl
  refine AX (hK' _ _ ?_)
  clear hK' K'
  iterate 3 refine SF ?_
  refine T2 (hK _ _ _ ?_)
  clear hK K
  refine aB fun K hK => Rg ?_
  have F := @jK
  iterate 10 refine SF ?_
  refine T2 (hK _ _ _ ?_)
  clear hK K
  refine Rg ?_
  iterate 10 refine SF ?_
  refine T2 (hK _ _ _ ?_)
  clear hK K
  refine aM (by kernel_rfl) ?_
  refine TQ (bK i) ?_
  refine ⟨⟨(i + 1, rnd (eO p) i S), hlt, by rw [hS]; rfl⟩, aQ (by omega) (by simp [aX, fin_at, finA_at, upd_at, HV.men, HV.menL, HV.norm, HV.toC, HV.toCL, rnd]) (by simp [bB, fob_at, upd_at, none0_at, HO.men, HV.men, HV.menL, HV.norm, HV.toC, HV.toCL]), ?_⟩
  show 64 - (i + 1) < 64 - i
  omega
 refine aS (T3 ?_)
 clear hK K
 refine AX (hK _ _ _ ?_)
 clear hK K
 refine aB fun K hK => Rg ?_
 iterate 8 refine S0 ?_
 refine HS rfl rfl fun K' hK' => T5 ?_
 rw [gQ (n := 8) S.l rfl rfl]
 refine AX (hK' _ _ ?_)
 clear hK' K'
 refine S0 ?_
 refine T2 (hK _ _ _ ?_)
 clear hK K
 refine aH ?_
 have hei : i = 64 := by simp at hb; omega
 subst hei
 clear hb
 have e8 : uH s S 8 = (comp s p).l := by rw [hS]; rfl
 clear hS
 refine aT (α := {j : Nat // j ≤ 8}) (fun j => (fin [(0, .ptr 0 0), (129, .c (ws S.l)), (130, .c (.int .i64 j.1))], fob [(0, .box 152 (.c (ws (uH s S j.1))))])) 300 (fun j => 8 - j.1) ⟨0, by omega⟩ (fF) ?_
 rintro ⟨j, hj⟩
 have hlen := aF0 s S j (by omega)
 refine R0 ?_
 refine aB fun K hK => ?_
 refine aJ (b := decide ((j : Int) < 8)) rfl (fun hb => ?_) (fun hb => ?_)
 ·
  have hlt : j < 8 := by simp at hb; omega
  have z : (j : Int) < 8 := by omega
  have hg := aR8 s S j hlt
  refine aG ?_
  refine T0 (hK _ _ _ ?_)
  clear hK K
  refine aB fun K hK => ?_
  refine aH ?_
  refine aB fun K hK => Rg ?_
  iterate 4 refine S0 ?_ (e := fun _ h_ => by simp only [sH, ↓sP, sA, tyS, simprocAttr, z, hlt, hlen, hg, dE, cM, jO, jP, jQ, jR, jS, jT, jU, jV, cL, Nat.mul_one, Int.natCast_nonneg]; exact AX h_)
  refine T2 (hK _ _ _ ?_)
  clear hK K
  refine DW [(0, [], []), (1, [], []), (2, [], []), (3, [], []), (4, [], []), (5, [], []), (6, [], []), (7, [], []), (8, [], []), (9, [], [])] [0, 0, 1, 7, 15, 0, 63, 1, 255, 511] ?_
  have F := aI z (aI hlt (aI hlen (aI hg (aI @dE (aI @Nat.mul_one (aI @Int.natCast_nonneg (aI @jK (aI @nD @fA))))))))
  iterate 10 refine WF ?_
  refine T2 (hK _ _ _ ?_)
  clear hK K
  refine aM (by kernel_rfl) ?_
  refine TQ (bK j) ?_
  refine ⟨⟨j + 1, hlt⟩, aQ (by omega) (by simp [aX, fin_at, finA_at, upd_at, HV.men, HV.menL, HV.norm, HV.toC, HV.toCL]) (by simp [bB, fob_at, upd_at, none0_at, HO.men, HV.men, HV.menL, HV.norm, HV.toC, HV.toCL]; rw [xM s S j hlt]), ?_⟩
  show 8 - (j + 1) < 8 - j
  omega
 refine aS (T3 ?_)
 clear hK K
 simp only [cJ, Tryz.results137, cC, cI, bW, ↓sP, sA, tyS, simprocAttr]
 have hej : j = 8 := by simp at hb; omega
 subst hej
 exact bA4 [] (ws (uH s S 8)) rfl rfl (eD (eU _)) (by simp) (by rw [e8])

end Go.Proofs.YtenbfeemmpjdhaaGreatDoor

namespace Go.Proofs.YtenbfeemmpjdhaaGreatDoor
open Go Go.Hl Go.Pl
set_option maxRecDepth 10000
set_option maxHeartbeats 16000000

theorem bK2 (s : St) (p : List UInt8) (hp : p.length = 64) : aW Tryz.prog 120 [ws s.l, .slc (p.map u8)] (fun v => v = ws (comp s p).l) := by
 refine FW Tryz.func120 ?_
 refine R0 ?_
 refine R0 ?_
 refine aB fun K hK => ?_
 refine R0 ?_
 refine aH ?_
 refine aT (α := {i : Nat // i ≤ 16}) (fun i => (fin [(1, .c (.slc (p.map u8))), (2, .ptr 0 0), (4, .ptr 4 0), (5, .ptr 8 0), (6, .c (.int .i64 i.1))], fob [(0, .box 152 (.c (ws s.l))), (4, .box 152 (.c (ws (wz 8)))), (8, .box 161 (.c (ws (wA p i.1))))])) 100 (fun i => 16 - i.1) ⟨0, by omega⟩ (fF) ?_
 rintro ⟨i, hi⟩
 have hlen := tR p i
 refine aB fun K hK => ?_
 refine R0 ?_
 refine aJ (b := decide ((i : Int) < 16)) rfl (fun hb => ?_) (fun hb => ?_)
 ·
  have hlt : i < 16 := by simp at hb; omega
  have z : (i : Int) < 64 := by omega
  have q : i < 64 := by omega
  have q0 : 4 * i < 64 := by omega
  have q1 : 4 * i + 1 < 64 := by omega
  have q2 : 4 * i + 2 < 64 := by omega
  have q3 : 4 * i + 3 < 64 := by omega
  have z0 : ((4 * i : Nat) : Int) < 64 := by omega
  have z1 : ((4 * i + 1 : Nat) : Int) < 64 := by omega
  have z2 : ((4 * i + 2 : Nat) : Int) < 64 := by omega
  have z3 : ((4 * i + 3 : Nat) : Int) < 64 := by omega
  have m0 : IntKind.i64.wrap (4 * (i : Int)) = ((4 * i : Nat) : Int) := by rw [IntWalk.i64_in _ (by omega)]; omega
  have m1 : IntKind.i64.wrap (((4 * i : Nat) : Int) + 1) = ((4 * i + 1 : Nat) : Int) := by rw [IntWalk.i64_in _ (by omega)]; omega
  have m2 : IntKind.i64.wrap (((4 * i : Nat) : Int) + 2) = ((4 * i + 2 : Nat) : Int) := by rw [IntWalk.i64_in _ (by omega)]; omega
  have m3 : IntKind.i64.wrap (((4 * i : Nat) : Int) + 3) = ((4 * i + 3 : Nat) : Int) := by rw [IntWalk.i64_in _ (by omega)]; omega
  refine aG ?_
  refine T0 (hK _ _ _ ?_)
  clear hK K
  refine aB fun K hK => ?_
  refine aH ?_
  refine DW [(0, [], []), (1, [], []), (2, [], []), (3, [], []), (4, [], []), (5, [], []), (6, [], []), (7, [], []), (8, [], []), (9, [], []), (10, [], []), (11, [], []), (12, [], []), (13, [], []), (14, [], []), (15, [], []), (16, [], []), (17, [], []), (18, [], []), (19, [], []), (20, [], []), (21, [], []), (22, [], []), (23, [], []), (24, [], []), (25, [], []), (26, [], []), (27, [], []), (28, [], []), (29, [], []), (30, [], []), (31, [], []), (32, [], []), (33, [], []), (34, [], []), (35, [], [])] [0, 0, 0, 4, 14, 30, 62, 126, 0, 0, 512, 1536, 3840, 7936, 16128, 32512, 65534, 0, 0, 262144, 786432, 1966080, 4063232, 8257536, 16646144, 33554430, 0, 0, 134217728, 402653184, 1006632960, 2080374784, 4227858432, 8589934590, 17179869183, 34359738367] ?_
  iterate 36 refine W0 ?_ (e := fun _ h_ => by simp only [sH, ↓sP, sA, tyS, simprocAttr, m0, m1, m2, m3, q, q0, q1, q2, q3, z, z0, z1, z2, z3, hp, hlen, Int.natCast_nonneg, bE9, Nat.mul_one, bD0, aR3, bM8, nD, fA]; exact AX h_)
  refine T2 (hK _ _ _ ?_)
  clear hK K
  refine aM (by kernel_rfl) ?_
  refine TQ (bK i) ?_
  refine ⟨⟨i + 1, hlt⟩, aQ (by omega) (by simp [aX, fin_at, finA_at, upd_at, HV.men, HV.menL, HV.norm, HV.toC, HV.toCL]) (by simp [bB, fob_at, upd_at, none0_at, bU, HO.men, HV.men, HV.menL, HV.norm, HV.toC, HV.toCL]; rfl), ?_⟩
  show 16 - (i + 1) < 16 - i
  omega
 refine aS (T3 ?_)
 clear hK K
 refine AX (hK _ _ _ ?_)
 clear hK K
 refine aB fun K hK => ?_
 refine R0 ?_
 refine aH ?_
 have hei : i = 16 := by simp at hb; omega
 subst hei
 clear hb hlen
 refine aT (α := {i : Nat // i ≤ 48}) (fun i => (fin [(2, .ptr 0 0), (4, .ptr 4 0), (5, .ptr 8 0), (7, .c (.int .i64 ((i.1 + 16 : Nat) : Int)))], fob [(0, .box 152 (.c (ws s.l))), (4, .box 152 (.c (ws (wz 8)))), (8, .box 161 (.c (ws (wB (wA p 16) i.1))))])) 100 (fun i => 48 - i.1) ⟨0, by omega⟩ (fF) ?_
 rintro ⟨i, hi⟩
 have hlen : (wB (wA p 16) i).length = 64 := by rw [aL3, tR]
 refine aB fun K hK => ?_
 refine R0 ?_
 refine aJ (b := decide (((i + 16 : Nat) : Int) < 64)) rfl (fun hb => ?_) (fun hb => ?_)
 ·
  have hlt : i < 48 := by simp at hb; omega
  have q0 : i < 64 := by omega
  have q1 : i + 1 < 64 := by omega
  have q2 : i + 14 < 64 := by omega
  have q3 : i + 9 < 64 := by omega
  have q4 : i + 16 < 64 := by omega
  have z0 : (i : Int) < 64 := by omega
  have z1 : ((i + 1 : Nat) : Int) < 64 := by omega
  have z2 : ((i + 14 : Nat) : Int) < 64 := by omega
  have z3 : ((i + 9 : Nat) : Int) < 64 := by omega
  have z4 : ((i + 16 : Nat) : Int) < 64 := by omega
  have m0 : IntKind.i64.wrap (((i + 16 : Nat) : Int) - 16) = (i : Int) := by rw [IntWalk.i64_in _ (by omega)]; omega
  have m1 : IntKind.i64.wrap (((i + 16 : Nat) : Int) - 15) = ((i + 1 : Nat) : Int) := by rw [IntWalk.i64_in _ (by omega)]; omega
  have m2 : IntKind.i64.wrap (((i + 16 : Nat) : Int) - 2) = ((i + 14 : Nat) : Int) := by rw [IntWalk.i64_in _ (by omega)]; omega
  have m3 : IntKind.i64.wrap (((i + 16 : Nat) : Int) - 7) = ((i + 9 : Nat) : Int) := by rw [IntWalk.i64_in _ (by omega)]; omega
  have m4 : IntKind.i64.wrap (((i + 16 : Nat) : Int) + 1) = ((i + 1 + 16 : Nat) : Int) := by rw [IntWalk.i64_in _ (by omega)]; omega
  refine aG ?_
  refine T0 (hK _ _ _ ?_)
  clear hK K
  refine aB fun K hK => ?_
  refine aH ?_
  refine aB fun K hK => DW [(0, [], []), (1, [], []), (2, [], []), (3, [], []), (5, [], []), (6, [], []), (7, [], []), (8, [], []), (11, [], []), (12, [], []), (13, [], []), (14, [], []), (15, [], []), (4, [], [5, 6, 7, 8, 11, 12, 13, 14, 15]), (9, [], [11, 12, 13, 14, 15]), (10, [], []), (16, [], []), (17, [], [])] [0, 1, 3, 7, 15, 0, 32, 96, 224, 511, 1023, 0, 2048, 6144, 14336, 30720, 65535, 131071] ?_
  have F := aI m1 (aI q1 (aI z1 (aI hlen (aI @Int.natCast_nonneg (aI @Nat.mul_one (aI @dE (aI @eT @tP)))))))
  iterate 13 refine WF ?_
  refine aN (g := none) rfl rfl fun K' hK' => T6 ?_
  refine C2 (jB _ 7 (by omega) (by omega)) ?_
  rintro u rfl
  refine AX (hK' _ _ ?_)
  clear hK' K'
  refine aN (g := none) rfl rfl fun K' hK' => T6 ?_
  refine C2 (jB _ 18 (by omega) (by omega)) ?_
  rintro u rfl
  refine AX (hK' _ _ ?_)
  clear hK' K'
  iterate 3 refine WF ?_
  refine T2 (hK _ _ _ ?_)
  clear hK K
  refine aB fun K hK => DW [(0, [], []), (1, [], []), (2, [], []), (3, [], []), (5, [], []), (6, [], []), (7, [], []), (8, [], []), (11, [], []), (12, [], []), (13, [], []), (14, [], []), (15, [], []), (4, [], [5, 6, 7, 8, 11, 12, 13, 14, 15]), (9, [], [11, 12, 13, 14, 15]), (10, [], []), (16, [], []), (17, [], [])] [0, 1, 3, 7, 15, 0, 32, 96, 224, 511, 1023, 0, 2048, 6144, 14336, 30720, 65535, 131071] ?_
  have F := aI m2 (aI q2 (aI z2 (aI hlen (aI @Int.natCast_nonneg (aI @Nat.mul_one (aI @dE (aI @eT @tP)))))))
  iterate 13 refine WF ?_
  refine aN (g := none) rfl rfl fun K' hK' => T6 ?_
  refine C2 (jB _ 17 (by omega) (by omega)) ?_
  rintro u rfl
  refine AX (hK' _ _ ?_)
  clear hK' K'
  refine aN (g := none) rfl rfl fun K' hK' => T6 ?_
  refine C2 (jB _ 19 (by omega) (by omega)) ?_
  rintro u rfl
  refine AX (hK' _ _ ?_)
  clear hK' K'
  iterate 3 refine WF ?_
  refine T2 (hK _ _ _ ?_)
  clear hK K
  refine DW [(0, [], []), (1, [], []), (2, [], []), (3, [], []), (4, [], []), (5, [], []), (6, [], []), (7, [], []), (8, [], []), (9, [], []), (10, [], []), (11, [], []), (12, [], []), (13, [], []), (14, [], []), (15, [], [])] [0, 0, 2, 6, 14, 0, 62, 0, 128, 384, 896, 2046, 0, 8190, 16383, 32767] ?_
  iterate 16 refine W0 ?_ (e := fun _ h_ => by simp only [sH, ↓sP, sA, tyS, simprocAttr, m0, m3, q0, q3, q4, z0, z3, z4, hlen, Int.natCast_nonneg, Nat.mul_one, dE, jK, nD, fA]; exact AX h_)
  refine T2 (hK _ _ _ ?_)
  clear hK K
  refine aM (by kernel_rfl) ?_
  refine TQ m4 ?_
  refine ⟨⟨i + 1, hlt⟩, aQ (by omega) (by simp [aX, fin_at, finA_at, upd_at, HV.men, HV.menL, HV.norm, HV.toC, HV.toCL]) (by simp [bB, fob_at, upd_at, none0_at, bU, HO.men, HV.men, HV.menL, HV.norm, HV.toC, HV.toCL]; rfl), ?_⟩
  show 48 - (i + 1) < 48 - i
  omega
 refine aS (T3 ?_)
 clear hK K
 refine AX (hK _ _ _ ?_)
 clear hK K
 have hei : i = 48 := by simp at hb; omega
 subst hei
 clear hb hlen
 rw [xL]
 refine aB fun K hK => Rg ?_
 have F := aI @cO (aI @gZ @aR7)
 refine HS rfl rfl fun K' hK' => T6 ?_
 refine C0 aA3 ?_
 rintro u rfl
 refine AX (hK' _ _ ?_)
 clear hK' K'
 iterate 2 refine SF ?_
 refine T2 (hK _ _ _ ?_)
 clear hK K
 have F := aI @iW (aI @cO (aI @gZ @cM))
 refine RF ?_
 refine aB fun K hK => ?_
 refine R0 ?_
 refine aH ?_
 refine aT (α := {x : Nat × St // x.1 ≤ 64 ∧ x.2 = itN (rnd (eO p)) x.1 s}) (fun x => (fin [(2, .ptr 0 0), (4, .ptr 4 0), (5, .ptr 8 0), (10, .ptr 112 0), (11, .ptr 124 0), (12, .c (.int .i64 x.1.1))], fob [(0, .box 152 (.c (ws s.l))), (4, .box 152 (.c (ws (wz 8)))), (8, .box 161 (.c (ws (eO p)))), (112, .box 161 (.c (ws K256))), (124, .box 152 (.c (ws x.1.2.l)))])) 300 (fun x => 64 - x.1.1) ⟨(0, s), by omega, rfl⟩ (fF) ?_
 rintro ⟨⟨i, S⟩, hi, hS⟩
 replace hi : i ≤ 64 := hi
 replace hS : S = itN (rnd (eO p)) i s := hS
 refine aB fun K hK => ?_
 refine R0 ?_
 refine aJ (b := decide ((i : Int) < 64)) rfl (fun hb => ?_) (fun hb => ?_)
 ·
  have hlt : i < 64 := by simp at hb; omega
  have z : (i : Int) < 64 := by omega
  refine aG ?_
  refine T0 (hK _ _ _ ?_)
  clear hK K
  refine aB fun K hK => ?_
  refine aH ?_
  refine aB fun K hK => DW [(0, [], []), (1, [], []), (3, [], []), (4, [], []), (7, [], []), (8, [], []), (2, [], [3, 4, 7, 8]), (5, [], [7, 8]), (6, [], []), (9, [], [6]), (10, [], []), (11, [], [])] [0, 1, 3, 0, 8, 31, 63, 0, 128, 447, 1023, 2047] ?_
  iterate 6 refine W0 ?_ (e := fun _ h_ => by simp only [sH, ↓sP, sA, tyS, simprocAttr, dE, cM, jO, jP, jQ, jR, jS, jT, jU, jV, cL, Nat.mul_one, Int.natCast_nonneg, eT]; exact AX h_)
  refine aN (g := none) rfl rfl fun K' hK' => ?_
  simp only [sH, ↓sP, sA, tyS, simprocAttr, dE, cM, jO, jP, jQ, jR, jS, jT, jU, jV, cL, Nat.mul_one, Int.natCast_nonneg, eT]
  refine C2 (jB _ 6 (by omega) (by omega)) ?_
  rintro u rfl
  refine AX (hK' _ _ ?_)
  clear hK' K'
  refine aN (g := none) rfl rfl fun K' hK' => ?_
  simp only [sH, ↓sP, sA, tyS, simprocAttr, dE, cM, jO, jP, jQ, jR, jS, jT, jU, jV, cL, Nat.mul_one, Int.natCast_nonneg, eT]
  refine C2 (jB _ 11 (by omega) (by omega)) ?_
  rintro u rfl
  refine AX (hK' _ _ ?_)
  clear hK' K'
  refine W0 ?_ (e := fun _ h_ => by simp only [sH, ↓sP, sA, tyS, simprocAttr, dE, cM, jO, jP, jQ, jR, jS, jT, jU, jV, cL, Nat.mul_one, Int.natCast_nonneg, eT]; exact AX h_)
  refine aN (g := none) rfl rfl fun K' hK' => ?_
  simp only [sH, ↓sP, sA, tyS, simprocAttr, dE, cM, jO, jP, jQ, jR, jS, jT, jU, jV, cL, Nat.mul_one, Int.natCast_nonneg, eT]
  refine C2 (jB _ 25 (by omega) (by omega)) ?_
  rintro u rfl
  refine AX (hK' _ _ ?_)
  clear hK' K'
  iterate 2 refine W0 ?_ (e := fun _ h_ => by simp only [sH, ↓sP, sA, tyS, simprocAttr, dE, cM, jO, jP, jQ, jR, jS, jT, jU, jV, cL, Nat.mul_one, Int.natCast_nonneg, eT]; exact AX h_)
  refine T2 (hK _ _ _ ?_)
  clear hK K
  refine aB fun K hK => QR ?_
  iterate 26 refine S0 ?_ (e := fun _ h_ => by simp only [sH, ↓sP, sA, tyS, simprocAttr, dE, cM, jO, jP, jQ, jR, jS, jT, jU, jV, cL, Nat.mul_one, Int.natCast_nonneg, z, hlt, aR7, kR, jK, aR2, eT, bU1, bX0]; exact AX h_)
  refine T2 (hK _ _ _ ?_)
  clear hK K
  refine aB fun K hK => DW [(0, [], []), (1, [], []), (3, [], []), (4, [], []), (7, [], []), (8, [], []), (2, [], [3, 4, 7, 8]), (5, [], [7, 8]), (6, [], []), (9, [], [6]), (10, [], []), (11, [], [])] [0, 1, 3, 0, 8, 31, 63, 0, 128, 447, 1023, 2047] ?_
  iterate 6 refine W0 ?_ (e := fun _ h_ => by simp only [sH, ↓sP, sA, tyS, simprocAttr, dE, cM, jO, jP, jQ, jR, jS, jT, jU, jV, cL, Nat.mul_one, Int.natCast_nonneg, eT]; exact AX h_)
  refine aN (g := none) rfl rfl fun K' hK' => ?_
  simp only [sH, ↓sP, sA, tyS, simprocAttr, dE, cM, jO, jP, jQ, jR, jS, jT, jU, jV, cL, Nat.mul_one, Int.natCast_nonneg, eT]
  refine C2 (jB _ 2 (by omega) (by omega)) ?_
  rintro u rfl
  refine AX (hK' _ _ ?_)
  clear hK' K'
  refine aN (g := none) rfl rfl fun K' hK' => ?_
  simp only [sH, ↓sP, sA, tyS, simprocAttr, dE, cM, jO, jP, jQ, jR, jS, jT, jU, jV, cL, Nat.mul_one, Int.natCast_nonneg, eT]
  refine C2 (jB _ 13 (by omega) (by omega)) ?_
  rintro u rfl
  refine AX (hK' _ _ ?_)
  clear hK' K'
  refine W0 ?_ (e := fun _ h_ => by simp only [sH, ↓sP, sA, tyS, simprocAttr, dE, cM, jO, jP, jQ, jR, jS, jT, jU, jV, cL, Nat.mul_one, Int.natCast_nonneg, eT]; exact AX h_)
  refine aN (g := none) rfl rfl fun K' hK' => ?_
  simp only [sH, ↓sP, sA, tyS, simprocAttr, dE, cM, jO, jP, jQ, jR, jS, jT, jU, jV, cL, Nat.mul_one, Int.natCast_nonneg, eT]
  refine C2 (jB _ 22 (by omega) (by omega)) ?_
  rintro u rfl
  refine AX (hK' _ _ ?_)
  clear hK' K'
  iterate 2 refine W0 ?_ (e := fun _ h_ => by simp only [sH, ↓sP, sA, tyS, simprocAttr, dE, cM, jO, jP, jQ, jR, jS, jT, jU, jV, cL, Nat.mul_one, Int.natCast_nonneg, eT]; exact AX h_)
  refine T2 (hK _ _ _ ?_)
  clear hK K
  refine aB fun K hK => Rg ?_
  iterate 20 refine S0 ?_ (e := fun _ h_ => by simp only [sH, ↓sP, sA, tyS, simprocAttr, dE, cM, jO, jP, jQ, jR, jS, jT, jU, jV, cL, Nat.mul_one, Int.natCast_nonneg, jK, aR2, eT, bX1]; exact AX h_)
  refine T2 (hK _ _ _ ?_)
  clear hK K
  refine Rg ?_
  iterate 19 refine S0 ?_ (e := fun _ h_ => by simp only [sH, ↓sP, sA, tyS, simprocAttr, dE, cM, jO, jP, jQ, jR, jS, jT, jU, jV, cL, Nat.mul_one, Int.natCast_nonneg, jK, cO]; exact AX h_)
  refine HS rfl rfl fun K' hK' => ?_
  simp only [sH, ↓sP, sA, tyS, simprocAttr, dE, cM, jO, jP, jQ, jR, jS, jT, jU, jV, cL, Nat.mul_one, Int.natCast_nonneg, jK, cO]
  rw [gQ (n := 8) (rnd (eO p) i S).l rfl rfl]
  refine AX (hK' _ _ ?_)
  clear hK' K'
  refine S0 ?_ (e := fun _ h_ => by simp only [sH, ↓sP, sA, tyS, simprocAttr, dE, cM, jO, jP, jQ, jR, jS, jT, jU, jV, cL, Nat.mul_one, Int.natCast_nonneg, jK, cO]; exact AX h_)
  refine T2 (hK _ _ _ ?_)
  clear hK K
  refine aM (by kernel_rfl) ?_
  refine TQ (bK i) ?_
  refine ⟨⟨(i + 1, rnd (eO p) i S), hlt, by rw [hS]; rfl⟩, fF, ?_⟩
  show 64 - (i + 1) < 64 - i
  omega
 refine aS (T3 ?_)
 clear hK K
 refine AX (hK _ _ _ ?_)
 clear hK K
 refine aB fun K hK => ?_
 refine R0 ?_
 refine aH ?_
 have hei : i = 64 := by simp at hb; omega
 subst hei
 clear hb
 have e8 : uH s S 8 = (comp s p).l := by rw [hS]; rfl
 clear hS
 refine aT (α := {j : Nat // j ≤ 8}) (fun j => (fin [(2, .ptr 0 0), (4, .ptr 4 0), (11, .ptr 124 0), (17, .c (.int .i64 j.1))], fob [(0, .box 152 (.c (ws (uH s S j.1)))), (4, .box 152 (.c (ws (wz 8)))), (124, .box 152 (.c (ws S.l)))])) 300 (fun j => 8 - j.1) ⟨0, by omega⟩ (fF) ?_
 rintro ⟨j, hj⟩
 have hlen := aF0 s S j (by omega)
 refine aB fun K hK => ?_
 refine R0 ?_
 refine aJ (b := decide ((j : Int) < 8)) rfl (fun hb => ?_) (fun hb => ?_)
 ·
  have hlt : j < 8 := by simp at hb; omega
  have z : (j : Int) < 8 := by omega
  have hg := aR8 s S j hlt
  refine aG ?_
  refine T0 (hK _ _ _ ?_)
  clear hK K
  refine aB fun K hK => ?_
  refine aH ?_
  refine DW [(0, [], []), (1, [], []), (2, [], []), (3, [], []), (4, [], []), (5, [], []), (6, [], []), (7, [], []), (8, [], []), (9, [], [])] [0, 0, 2, 6, 0, 16, 48, 126, 255, 511] ?_
  iterate 10 refine W0 ?_ (e := fun _ h_ => by simp only [sH, ↓sP, sA, tyS, simprocAttr, z, hlt, hlen, hg, dE, cM, Nat.mul_one, Int.natCast_nonneg, jK, nD, fA]; exact AX h_)
  refine T2 (hK _ _ _ ?_)
  clear hK K
  refine aM (by kernel_rfl) ?_
  refine TQ (bK j) ?_
  refine ⟨⟨j + 1, hlt⟩, aQ (by omega) (by simp [aX, fin_at, finA_at, upd_at, HV.men, HV.menL, HV.norm, HV.toC, HV.toCL]) (by simp [bB, fob_at, upd_at, none0_at, HO.men, HV.men, HV.menL, HV.norm, HV.toC, HV.toCL]; rw [xM s S j hlt]), ?_⟩
  show 8 - (j + 1) < 8 - j
  omega
 refine aS (T3 ?_)
 clear hK K
 refine AX (hK _ _ _ ?_)
 clear hK K
 have hej : j = 8 := by simp at hb; omega
 subst hej
 clear hb
 have F := aI @iW (aI @cO (aI @gZ hlen))
 refine RF ?_
 refine aD ?_
 simp only [cJ, Tryz.results120, cC, cI, bW, ↓sP, sA, tyS, simprocAttr]
 simp only [iW hlen, Option.map_some]
 exact aC [] (ws (uH s S 8)) (eD (eU _)) (by rw [e8])

end Go.Proofs.YtenbfeemmpjdhaaGreatDoor
