/- Part of a proof: walks of functions of the program, by contracts, and the rules they use. By an AI agent. -/
import Derived.Test.YtenbfeemmpjdhaaGreatDoorHyT4
import Derived.Test.YtenbfeemmpjdhaaGreatDoorPl11y
import Derived.Test.YtenbfeemmpjdhaaGreatDoorHySb
import Derived.Test.YtenbfeemmpjdhaaGreatDoorHyTe
import Derived.Test.YtenbfeemmpjdhaaGreatDoorHyTz
import Derived.Test.YtenbfeemmpjdhaaGreatDoorHyVc
set_option linter.unusedSimpArgs false
set_option linter.unusedVariables false
set_option linter.defProp false
namespace Go.Proofs.YtenbfeemmpjdhaaGreatDoor
open Go Go.Hl Go.Pl
set_option maxRecDepth 10000
set_option maxHeartbeats 16000000
attribute [local simp] tp

theorem bL0 (r : Rt) : aW Tryz.prog 24 [r.cv] (fun v => v = .bool (iX r)) := by
 refine FW Tryz.func24 ?_
 refine R0 ?_
 refine aB fun K hK => ?_
 refine aB fun K hK => Rg ?_
 iterate 5 refine S0 ?_
 refine aE 7 rfl (fun h1_7 => ?_) (fun h1_7 => ?_)
 ·
  have F := h1_7
  iterate 11 refine SF ?_
  refine T2 (hK _ _ _ ?_)
  clear hK K
  refine CT rfl ?_
  refine R0 ?_
  refine aD (RT Tryz.results24 ?_)
  exact aC [] (.bool false) rfl (by simp only [lB, h1_7, Bool.not_true, Bool.not_false, Bool.true_and, Bool.false_and, Bool.and_false])
 have F := h1_7
 iterate 6 refine SF ?_
 refine aE 12 rfl (fun h1_12 => ?_) (fun h1_12 => ?_)
 ·
  have F := aI h1_7 h1_12
  iterate 5 refine SF ?_
  refine T2 (hK _ _ _ ?_)
  clear hK K
  refine CT rfl ?_
  refine R0 ?_
  refine aD (RT Tryz.results24 ?_)
  exact aC [] (.bool false) rfl (by simp only [lB, h1_7, h1_12, Bool.not_true, Bool.not_false, Bool.true_and, Bool.false_and, Bool.and_false])
 have F := aI h1_7 h1_12
 iterate 5 refine SF ?_
 refine aE 18 rfl (fun h1_18 => ?_) (fun h1_18 => ?_)
 ·
  simp only [h1_18]
  refine T2 (hK _ _ _ ?_)
  clear hK K
  refine CT rfl ?_
  refine R0 ?_
  refine aD (RT Tryz.results24 ?_)
  exact aC [] (.bool false) rfl (by simp only [lB, h1_7, h1_12, h1_18, Bool.not_true, Bool.not_false, Bool.true_and, Bool.false_and, Bool.and_false])
 simp only [h1_18]
 refine T2 (hK _ _ _ ?_)
 clear hK K
 refine CF rfl ?_
 refine aG ?_
 refine T0 (hK _ _ _ ?_)
 clear hK K
 refine aB fun K hK => ?_
 refine R0 ?_
 refine aH ?_
 have hk50 : r.k.length ≤ 50 := by simp at h1_12; omega
 refine aT (α := {i : Nat // i ≤ r.k.length ∧ ∀ x ∈ r.k.take i, mD x = true}) (fun i => (fin [(1, .ptr 0 0), (3, .c (.int .i64 i.1))], fob [(0, .box 26 (.c r.cv))])) 100 (fun i => r.k.length - i.1) ⟨0, by omega, by simp⟩ (fF) ?_
 rintro ⟨i, hi, h0⟩
 refine aB fun K hK => ?_
 refine aB fun K hK => Rg ?_
 have F := aI h1_7 (aI h1_12 h1_18)
 iterate 5 refine SF ?_
 refine T2 (hK _ _ _ ?_)
 clear hK K
 refine aJ (b := decide ((i : Int) < r.k.length)) rfl (fun hb => ?_) (fun hb => ?_)
 ·
  have hlt : i < r.k.length := by simpa using hb
  refine aG ?_
  refine T0 (hK _ _ _ ?_)
  clear hK K
  refine aB fun K hK => ?_
  refine aH ?_
  refine aB fun K hK => Rg ?_
  have F := aI @Int.natCast_nonneg (aI @Int.ofNat_lt (aI hlt (aI (nM hlt) (aI h1_7 (aI h1_12 h1_18)))))
  iterate 9 refine SF ?_
  refine aE 34 rfl (fun h6_34 => ?_) (fun h6_34 => ?_)
  ·
   have F := aI @Int.natCast_nonneg (aI @Int.ofNat_lt (aI hlt (aI (nM hlt) (aI h1_7 (aI h1_12 (aI h1_18 h6_34))))))
   iterate 9 refine SF ?_
   refine T2 (hK _ _ _ ?_)
   clear hK K
   refine CT rfl ?_
   refine R0 ?_
   refine aD (RT Tryz.results24 ?_)
   exact aC [] (.bool false) rfl (by rw [xN hlt (by simp only [mE, h1_7, h1_12, h1_18, h6_34, Bool.not_true, Bool.not_false, Bool.true_and, Bool.false_and, Bool.and_false])])
  have F := aI @Int.natCast_nonneg (aI @Int.ofNat_lt (aI hlt (aI (nM hlt) (aI h1_7 (aI h1_12 (aI h1_18 h6_34))))))
  iterate 9 refine SF ?_
  refine aE 43 rfl (fun h6_43 => ?_) (fun h6_43 => ?_)
  ·
   simp only [h6_43]
   refine T2 (hK _ _ _ ?_)
   clear hK K
   refine CT rfl ?_
   refine R0 ?_
   refine aD (RT Tryz.results24 ?_)
   exact aC [] (.bool false) rfl (by rw [xN hlt (by simp only [mE, h1_7, h1_12, h1_18, h6_34, h6_43, Bool.not_true, Bool.not_false, Bool.true_and, Bool.false_and, Bool.and_false])])
  simp only [h6_43]
  refine T2 (hK _ _ _ ?_)
  clear hK K
  refine CF rfl ?_
  refine aG ?_
  refine T0 (hK _ _ _ ?_)
  clear hK K
  refine aM (by kernel_rfl) ?_
  refine TQ (bK i) ?_
  refine ⟨⟨i + 1, hlt, fun x hx => ?_⟩, fF, ?_⟩
  ·
   rw [List.take_succ_eq_append_getElem hlt, List.mem_append, List.mem_singleton] at hx
   rcases hx with hx | rfl
   ·
    exact h0 x hx
   simp only [mE, h1_7, h1_12, h1_18, h6_34, h6_43, Bool.not_false, Bool.true_and]
  show r.k.length - (i + 1) < r.k.length - i
  omega
 refine aS (T3 ?_)
 clear hK K
 refine AX (hK _ _ _ ?_)
 clear hK K
 refine R0 ?_
 refine aD (RT Tryz.results24 ?_)
 have hei : i = r.k.length := by simp at hb; omega
 subst hei
 rw [List.take_length] at h0
 exact aC [] (.bool true) rfl (by rw [lB, List.all_eq_true.2 h0, h1_7, h1_12, h1_18]; rfl)


theorem aJ8 (r : Rt) (d : Dig) (hr : rSz r) : cW Tryz.prog 123 [r.cv, dg d] (fun u v => u = ((fJ r.k d).getD k0).cv ∧ v = .bool (fJ r.k d).isSome) := by
 have hlk : r.k.length < 2 ^ 40 := hr.2.1.1
 refine FW Tryz.func123 ?_
 refine aB fun K hK => Rg ?_
 iterate 4 refine S0 ?_
 refine T2 (hK _ _ _ ?_)
 clear hK K
 refine aB fun K hK => ?_
 refine R0 ?_
 refine aH ?_
 refine aT (α := {i : Nat // i ≤ r.k.length ∧ ∀ x ∈ r.k.take i, (kid x == d) = false}) (fun i => (fin [(2, .ptr 0 0), (3, .ptr 4 0), (4, .ptr 8 0), (6, .c (.int .i64 i.1))], fob [(0, .box 26 (.c r.cv)), (4, .box 49 (.c (dg d))), (8, .box 70 (.c (.agg [Pk.cv ⟨0, zh⟩, .str [], .nils, .int .i64 0, .int .i64 0])))])) 100 (fun i => r.k.length - i.1) ⟨0, by omega, by simp⟩ (fF) ?_
 rintro ⟨i, hi, h0⟩
 refine aB fun K hK => ?_
 refine aB fun K hK => Rg ?_
 iterate 5 refine S0 ?_
 refine T2 (hK _ _ _ ?_)
 clear hK K
 refine aJ (b := decide ((i : Int) < r.k.length)) rfl (fun hb => ?_) (fun hb => ?_)
 ·
  have hlt : i < r.k.length := by simpa using hb
  refine aG ?_
  refine T0 (hK _ _ _ ?_)
  clear hK K
  refine aB fun K hK => ?_
  refine aH ?_
  refine aB fun K hK => DW [(0, [], []), (1, [], []), (2, [], []), (3, [], []), (4, [], []), (5, [], []), (7, [], []), (6, [], [7]), (8, [], [])] [0, 1, 0, 7, 15, 31, 63, 0, 255] ?_
  have F := aI @Int.natCast_nonneg (aI @Int.ofNat_lt (aI hlt (nM hlt)))
  iterate 7 refine WF ?_
  refine aN (g := none) rfl rfl fun K' hK' => T6 ?_
  refine C1 (qS r.k[i].p) ?_
  rintro u rfl
  refine AX (hK' _ _ ?_)
  clear hK' K'
  refine WF ?_
  refine T2 (hK _ _ _ ?_)
  clear hK K
  refine aJ (b := kid r.k[i] == d) rfl (fun hb => ?_) (fun hb => ?_)
  ·
   refine aB fun K hK => Rg ?_
   iterate 7 refine SF ?_
   refine T2 (hK _ _ _ ?_)
   clear hK K
   refine aD (RT Tryz.results123 ?_)
   have hf : fJ r.k d = some r.k[i] := pA (p := fun k => kid k == d) hlt hb h0
   refine aL [] r.k[i].cv (.bool true) ?_ ⟨by rw [hf]; rfl, by rw [hf]; rfl⟩
   simp [HV.close, HV.closeL, Ky.denil, CV.denil, HV.norm, HV.toC, HV.toCL]
  refine aG ?_
  refine T0 (hK _ _ _ ?_)
  clear hK K
  refine aM (by kernel_rfl) ?_
  refine TQ (bK i) ?_
  refine ⟨⟨i + 1, hlt, dO (p := fun k => kid k == d) hlt hb h0⟩, fF, ?_⟩
  show r.k.length - (i + 1) < r.k.length - i
  omega
 refine aS (T3 ?_)
 clear hK K
 refine AX (hK _ _ _ ?_)
 clear hK K
 refine R0 ?_
 refine aD (RT Tryz.results123 ?_)
 have hei : i = r.k.length := by simp at hb; omega
 subst hei
 rw [List.take_length] at h0
 have hf : fJ r.k d = none := qI (p := fun k => kid k == d) h0
 refine aL [] k0.cv (.bool false) ?_ ⟨by rw [hf]; rfl, by rw [hf]; rfl⟩
 simp [HV.close, HV.closeL, CV.denil, CV.denilL, HV.norm, HV.toC, HV.toCL, Pk.denil, k0, Ky.cv]


theorem rP (r : Rt) (d : Dig) (hl : r.x.length < 2 ^ 40) : cW Tryz.prog 57 [r.cv, dg d] (fun u v => u = .int .i64 (iJ r.x d) ∧ v = .bool (iU r.x d)) := by
 refine FW Tryz.func57 ?_
 refine aB fun K hK => Rg ?_
 iterate 4 refine S0 ?_
 refine T2 (hK _ _ _ ?_)
 clear hK K
 refine aB fun K hK => ?_
 refine R0 ?_
 refine aH ?_
 refine aT (α := {i : Nat // i ≤ r.x.length ∧ ∀ x ∈ r.x.take i, (x.k == d) = false}) (fun i => (fin [(2, .ptr 0 0), (3, .ptr 4 0), (6, .c (.int .i64 i.1))], fob [(0, .box 26 (.c r.cv)), (4, .box 49 (.c (dg d)))])) 100 (fun i => r.x.length - i.1) ⟨0, by omega, by simp⟩ (fF) ?_
 rintro ⟨i, hi, h0⟩
 refine aB fun K hK => ?_
 refine aB fun K hK => Rg ?_
 iterate 5 refine S0 ?_
 refine T2 (hK _ _ _ ?_)
 clear hK K
 refine aJ (b := decide ((i : Int) < r.x.length)) rfl (fun hb => ?_) (fun hb => ?_)
 ·
  have hlt : i < r.x.length := by simpa using hb
  refine aG ?_
  refine T0 (hK _ _ _ ?_)
  clear hK K
  refine aB fun K hK => ?_
  refine aH ?_
  refine aB fun K hK => QR ?_
  have F := aI @Int.natCast_nonneg (aI @Int.ofNat_lt (aI hlt (nM hlt)))
  iterate 8 refine SF ?_
  refine T2 (hK _ _ _ ?_)
  clear hK K
  refine aJ (b := r.x[i].k == d) rfl (fun hb => ?_) (fun hb => ?_)
  ·
   refine aB fun K hK => Rg ?_
   iterate 8 refine SF ?_
   refine T2 (hK _ _ _ ?_)
   clear hK K
   refine aD (RT Tryz.results57 ?_)
   exact aL [] (.int .i64 r.x[i].t) (.bool true) rfl ⟨by unfold iJ; rw [pB hlt hb h0]; rfl, by unfold iU; rw [pB hlt hb h0]; rfl⟩
  refine aG ?_
  refine T0 (hK _ _ _ ?_)
  clear hK K
  refine aM (by kernel_rfl) ?_
  refine TQ (bK i) ?_
  refine ⟨⟨i + 1, hlt, dO (p := fun x => x.k == d) hlt hb h0⟩, fF, ?_⟩
  show r.x.length - (i + 1) < r.x.length - i
  omega
 refine aS (T3 ?_)
 clear hK K
 refine AX (hK _ _ _ ?_)
 clear hK K
 refine R0 ?_
 refine aD (RT Tryz.results57 ?_)
 have hei : i = r.x.length := by simp at hb; omega
 subst hei
 have hm := aE6 (l := r.x) (d := d) (by simpa using h0)
 exact aL [] (.int .i64 0) (.bool false) rfl ⟨by unfold iJ; rw [hm]; rfl, by unfold iU; rw [hm]; rfl⟩


theorem bL1 (r : Rt) (d : Dig) (t : Int) (hr : rSz r) : aW Tryz.prog 124 [r.cv, dg d, .int .i64 t] (fun v => v = .bool (pG r d t)) := by
 refine FW Tryz.func124 ?_
 refine R0 ?_
 refine aB fun K hK => Rg ?_
 iterate 2 refine S0 ?_
 refine HS rfl rfl fun K' hK' => T5 ?_
 refine D2 (aJ8 r d hr) ?_
 rintro u v ⟨rfl, rfl⟩
 refine AX (hK' _ _ ?_)
 clear hK' K'
 iterate 6 refine S0 ?_
 refine T2 (hK _ _ _ ?_)
 clear hK K
 refine aB fun K hK => Rg ?_
 iterate 2 refine S0 ?_
 refine HS rfl rfl fun K' hK' => T5 ?_
 refine D2 (rP r d hr.2.2) ?_
 rintro u v ⟨rfl, rfl⟩
 refine AX (hK' _ _ ?_)
 clear hK' K'
 iterate 5 refine S0 ?_
 refine T2 (hK _ _ _ ?_)
 clear hK K
 refine aB fun K hK => Rg ?_
 iterate 2 refine S0 ?_
 refine aE 23 rfl (fun h3_23 => ?_) (fun h3_23 => ?_)
 ·
  have F := h3_23
  iterate 6 refine SF ?_
  refine aE 28 rfl (fun h3_28 => ?_) (fun h3_28 => ?_)
  ·
   have F := aI h3_23 h3_28
   iterate 6 refine SF ?_
   refine aE 34 rfl (fun h3_34 => ?_) (fun h3_34 => ?_)
   ·
    have F := aI h3_23 (aI h3_28 h3_34)
    iterate 6 refine SF ?_
    refine aE 40 rfl (fun h3_40 => ?_) (fun h3_40 => ?_)
    ·
     have F := aI h3_23 (aI h3_28 (aI h3_34 h3_40))
     iterate 2 refine SF ?_
     refine aE 43 rfl (fun h3_43 => ?_) (fun h3_43 => ?_)
     ·
      have F := aI h3_23 (aI h3_28 (aI h3_34 (aI h3_40 h3_43)))
      iterate 7 refine SF ?_
      refine aE 47 rfl (fun h3_47 => ?_) (fun h3_47 => ?_)
      ·
       simp only [h3_47]
       refine T2 (hK _ _ _ ?_)
       clear hK K
       refine aD (RT Tryz.results124 ?_)
       exact aC [] (.bool false) rfl (by simp only [eJ, h3_23, h3_28, h3_34, h3_40, h3_43, h3_47, Bool.and_true, Bool.and_false, Bool.true_and, Bool.false_and, Bool.not_true, Bool.not_false])
      simp only [h3_47]
      refine T2 (hK _ _ _ ?_)
      clear hK K
      refine aD (RT Tryz.results124 ?_)
      exact aC [] (.bool true) rfl (by simp only [eJ, h3_23, h3_28, h3_34, h3_40, h3_43, h3_47, Bool.and_true, Bool.and_false, Bool.true_and, Bool.false_and, Bool.not_true, Bool.not_false])
     have F := aI h3_23 (aI h3_28 (aI h3_34 (aI h3_40 h3_43)))
     iterate 7 refine SF ?_
     refine T2 (hK _ _ _ ?_)
     clear hK K
     refine aD (RT Tryz.results124 ?_)
     exact aC [] (.bool true) rfl (by simp only [eJ, h3_23, h3_28, h3_34, h3_40, h3_43, Bool.and_true, Bool.and_false, Bool.true_and, Bool.false_and, Bool.not_true, Bool.not_false])
    have F := aI h3_23 (aI h3_28 (aI h3_34 h3_40))
    iterate 9 refine SF ?_
    refine T2 (hK _ _ _ ?_)
    clear hK K
    refine aD (RT Tryz.results124 ?_)
    exact aC [] (.bool false) rfl (by simp only [eJ, h3_23, h3_28, h3_34, h3_40, Bool.and_true, Bool.and_false, Bool.true_and, Bool.false_and, Bool.not_true, Bool.not_false])
   have F := aI h3_23 (aI h3_28 h3_34)
   iterate 15 refine SF ?_
   refine T2 (hK _ _ _ ?_)
   clear hK K
   refine aD (RT Tryz.results124 ?_)
   exact aC [] (.bool false) rfl (by simp only [eJ, h3_23, h3_28, h3_34, Bool.and_true, Bool.and_false, Bool.true_and, Bool.false_and, Bool.not_true, Bool.not_false])
  have F := aI h3_23 h3_28
  iterate 21 refine SF ?_
  refine T2 (hK _ _ _ ?_)
  clear hK K
  refine aD (RT Tryz.results124 ?_)
  exact aC [] (.bool false) rfl (by simp only [eJ, h3_23, h3_28, Bool.and_true, Bool.and_false, Bool.true_and, Bool.false_and, Bool.not_true, Bool.not_false])
 have F := h3_23
 iterate 27 refine SF ?_
 refine T2 (hK _ _ _ ?_)
 clear hK K
 refine aD (RT Tryz.results124 ?_)
 exact aC [] (.bool false) rfl (by simp only [eJ, h3_23, Bool.and_true, Bool.and_false, Bool.true_and, Bool.false_and, Bool.not_true, Bool.not_false])



theorem aJ9 (r : Rt) (role : aK) (l : List Dig) (t : Int) (hr : rSz r) (hl : l.length < 2 ^ 40) : aW Tryz.prog 96 [r.cv, .str role, .slc (l.map dg), .int .i64 t] (fun v => v = .slc ((fS r role l t).map .str)) := by
 refine FW Tryz.func96 ?_
 refine R0 ?_
 refine aB fun K hK => ?_
 refine aB fun K hK => Rg ?_
 refine S0 ?_
 refine HS rfl rfl fun K' hK' => T5 ?_
 refine C1 (gR r hr) ?_
 rintro u rfl
 refine AX (hK' _ _ ?_)
 clear hK' K'
 refine S0 ?_
 refine T2 (hK _ _ _ ?_)
 clear hK K
 refine aJ (b := !bJ r) rfl (fun hb => ?_) (fun hb => ?_)
 ·
  refine R0 ?_
  refine aD (RT Tryz.results96 ?_)
  exact aC [] (.slc []) rfl (by unfold fS; rw [if_neg (by simpa using hb)]; rfl)
 refine aG ?_
 refine T0 (hK _ _ _ ?_)
 clear hK K
 refine R0 ?_
 refine aB fun K hK => ?_
 refine R0 ?_
 refine aH ?_
 have hv : bJ r = true := by simpa using hb
 clear hb
 refine bT [] ?_
 refine aT (α := {i : Nat // i ≤ l.length}) (fun i => (fin [(1, .c (.str role)), (2, .c (.slc (l.map dg))), (3, .c (.int .i64 t)), (4, .ptr 0 0), (9, .c (.slc ((rvL r role t (l.take i.1)).map .str))), (10, .c (.int .i64 i.1))], fob [(0, .box 26 (.c r.cv))])) 100 (fun i => l.length - i.1) ⟨0, by omega⟩ (aQ (by omega) (by simp [aX, cD, fin_at, finA_at, upd_at, fob_at, HV.close, CV.denil, denilL_str, denilL_dg, HV.men, HV.menL, HV.norm, HV.toC, HV.toCL, rvL]) (by simp [bB, cE, fob_at, upd_at, none0_at, bU, HO.close, HV.close, HO.men, HV.men, HV.menL, HV.norm, HV.toC, HV.toCL, Rt.denil])) ?_
 rintro ⟨i, hi⟩
 have hrl := bO0 r role t (l.take i)
 have hti : (l.take i).length = i := by simp; omega
 refine aB fun K hK => ?_
 refine aB fun K hK => Rg ?_
 iterate 4 refine S0 ?_
 refine T2 (hK _ _ _ ?_)
 clear hK K
 refine aJ (b := decide ((i : Int) < l.length)) rfl (fun hb => ?_) (fun hb => ?_)
 ·
  have hlt : i < l.length := by simpa using hb
  refine aG ?_
  refine T0 (hK _ _ _ ?_)
  clear hK K
  refine aB fun K hK => ?_
  have key : ∀ (m : List aK) fr ob nx, m = rvL r role t (l.take (i + 1)) → Fits 0 fr ob (fin [(1, .c (.str role)), (2, .c (.slc (l.map dg))), (3, .c (.int .i64 t)), (4, .ptr 0 0), (9, .c (.slc (m.map .str))), (10, .c (.int .i64 i))]) (fob [(0, .box 26 (.c r.cv))]) 500 → K fr ob nx := by
   rintro m fr ob nx rfl hf
   refine hK _ _ _ (bE hf ?_)
   clear hf hK K
   refine aM (by kernel_rfl) ?_
   refine TQ (bK i) ?_
   refine ⟨⟨i + 1, hlt⟩, fF, ?_⟩
   show l.length - (i + 1) < l.length - i
   omega
  refine aH ?_
  refine aB fun K hK => DW [(0, [], []), (1, [], []), (2, [], []), (3, [], []), (4, [], []), (9, [], []), (5, [9], [9]), (6, [9], []), (7, [9], []), (8, [9], []), (10, [], [8]), (11, [], [])] [0, 0, 0, 6, 14, 31, 63, 127, 127, 0, 767, 2047] ?_
  have F := aI @Int.natCast_nonneg (aI @Int.ofNat_lt (aI hlt (nM hlt)))
  iterate 6 refine WF ?_
  refine aN (g := none) rfl rfl fun K' hK' => T6 ?_
  refine D2 (aJ8 r l[i] hr) ?_
  rintro u v ⟨rfl, rfl⟩
  refine AX (hK' _ _ ?_)
  clear hK' K'
  iterate 5 refine WF ?_
  refine T2 (hK _ _ _ ?_)
  clear hK K
  refine aB fun K hK => DW [(0, [], []), (1, [], []), (2, [], []), (3, [], []), (4, [], []), (5, [], []), (6, [], []), (7, [], []), (8, [], []), (9, [], []), (10, [], []), (11, [], []), (12, [], [])] [0, 1, 0, 7, 15, 31, 31, 31, 223, 479, 31, 2047, 4095] ?_
  iterate 3 refine WF ?_
  refine aN (g := none) rfl rfl fun K' hK' => T6 ?_
  refine C2 (aN6 ((fJ r.k l[i]).getD k0).rs role (by have := cB7 hr l[i]; omega)) ?_
  rintro u rfl
  refine AX (hK' _ _ ?_)
  clear hK' K'
  refine WF ?_
  refine bD 34 rfl (fun h8_34 => ?_) (fun h8_34 => ?_)
  ·
   have F := aI @Int.natCast_nonneg (aI @Int.ofNat_lt (aI hlt (aI (nM hlt) h8_34)))
   iterate 6 refine WF ?_
   refine aN (g := some (35, true)) rfl rfl fun K' hK' => T6 ?_
   refine C3 (bL1 r l[i] t hr) ?_
   rintro u rfl
   refine AX (hK' _ _ ?_)
   clear hK' K'
   refine WF ?_
   refine bD 42 rfl (fun h8_42 => ?_) (fun h8_42 => ?_)
   ·
    simp only [h8_42]
    refine T2 (hK _ _ _ ?_)
    clear hK K
    refine CT rfl ?_
    refine Rg ?_
    have F := aI h8_34 h8_42
    iterate 3 refine SF ?_
    refine HS rfl rfl fun K' hK' => T6 ?_
    refine C2 (bG9 (rvL r role t (l.take i)) ((fJ r.k l[i]).getD k0).o (by omega)) ?_
    rintro u rfl
    refine AX (hK' _ _ ?_)
    clear hK' K'
    refine SF ?_
    refine T4 ?_
    exact key (lF (rvL r role t (l.take i)) ((fJ r.k l[i]).getD k0).o) _ _ _ (by rw [uM hlt]; simp only [fB, fK, h8_34, h8_42, Bool.and_true, if_true]) (fF)
   simp only [h8_42]
   refine T2 (hK _ _ _ ?_)
   clear hK K
   refine CF rfl ?_
   refine aG (T3 ?_)
   exact key (rvL r role t (l.take i)) _ _ _ (by rw [uM hlt]; simp only [fB, fK, h8_34, h8_42, Bool.and_false, Bool.and_true, Bool.false_eq_true, if_false]) (fF)
  have F := aI @Int.natCast_nonneg (aI @Int.ofNat_lt (aI hlt (aI (nM hlt) h8_34)))
  iterate 8 refine WF ?_
  refine T2 (hK _ _ _ ?_)
  clear hK K
  refine CF rfl ?_
  refine aG (T3 ?_)
  exact key (rvL r role t (l.take i)) _ _ _ (by rw [uM hlt]; simp only [fB, fK, h8_34, Bool.false_and, Bool.false_eq_true, if_false]) (fF)
 refine aS (T3 ?_)
 clear hK K
 refine AX (hK _ _ _ ?_)
 clear hK K
 refine R0 ?_
 refine aD (RT Tryz.results96 ?_)
 have hei : i = l.length := by simp at hb; omega
 subst hei
 rw [List.take_length]
 exact aC [] (.slc ((rvL r role t l).map .str)) (eD (by simp only [CV.denil, denilL_str])) (by rw [bX4 hv])


theorem bL2 (r : Rt) (w : aK) (hr : rSz r) : aW Tryz.prog 95 [r.cv, .str w] (fun v => v = .int .i64 (oX r w)) := by
 refine FW Tryz.func95 ?_
 refine R0 ?_
 refine aB fun K hK => ?_
 refine aB fun K hK => Rg ?_
 refine S0 ?_
 refine HS rfl rfl fun K' hK' => T5 ?_
 refine C1 (gR r hr) ?_
 rintro u rfl
 refine AX (hK' _ _ ?_)
 clear hK' K'
 refine S0 ?_
 refine T2 (hK _ _ _ ?_)
 clear hK K
 refine aJ (b := !bJ r) rfl (fun hb => ?_) (fun hb => ?_)
 ·
  refine R0 ?_
  refine aD (RT Tryz.results95 ?_)
  exact aC [] (.int .i64 0) rfl (by unfold oX; rw [if_neg (by simpa using hb)])
 refine aG ?_
 refine T0 (hK _ _ _ ?_)
 clear hK K
 refine aB fun K hK => Rg ?_
 iterate 2 refine S0 ?_
 refine HS rfl rfl fun K' hK' => T5 ?_
 refine C2 (aG6 r w hr.1.1) ?_
 rintro u rfl
 refine AX (hK' _ _ ?_)
 clear hK' K'
 refine S0 ?_
 refine T2 (hK _ _ _ ?_)
 clear hK K
 refine aD (RT Tryz.results95 ?_)
 exact aC [] (.int .i64 _) rfl (by unfold oX; rw [if_pos (by simpa using hb)])


theorem vT (r : Rt) (role : aK) (l : List Dig) (t : Int) (hr : rSz r) (hl : l.length < 2 ^ 40) : aW Tryz.prog 58 [r.cv, .str role, .slc (l.map dg), .int .i64 t] (fun v => v = .bool (iA r role l t)) := by
 refine FW Tryz.func58 ?_
 refine R0 ?_
 refine aB fun K hK => Rg ?_
 iterate 2 refine S0 ?_
 refine HS rfl rfl fun K' hK' => T5 ?_
 refine C2 (bL2 r role hr) ?_
 rintro u rfl
 refine AX (hK' _ _ ?_)
 clear hK' K'
 refine S0 ?_
 refine T2 (hK _ _ _ ?_)
 clear hK K
 refine aB fun K hK => Rg ?_
 have F := @denilL_dg
 iterate 3 refine SF ?_
 refine aE 14 rfl (fun h2_14 => ?_) (fun h2_14 => ?_)
 ·
  have F := aI @denilL_dg h2_14
  iterate 4 refine SF ?_
  refine aZ (g := some (15, true)) rfl rfl fun K' hK' => T6 ?_
  refine C4 (aJ9 r role l t hr hl) ?_
  rintro u rfl
  refine AX (hK' _ _ ?_)
  clear hK' K'
  iterate 5 refine SF ?_
  refine aE 23 rfl (fun h2_23 => ?_) (fun h2_23 => ?_)
  ·
   simp only [h2_23]
   refine T2 (hK _ _ _ ?_)
   clear hK K
   refine aD (RT Tryz.results58 ?_)
   exact aC [] (.bool true) rfl (by simp only [iA, h2_14, h2_23, Bool.and_true, Bool.and_false, Bool.true_and, Bool.false_and])
  simp only [h2_23]
  refine T2 (hK _ _ _ ?_)
  clear hK K
  refine aD (RT Tryz.results58 ?_)
  exact aC [] (.bool false) rfl (by simp only [iA, h2_14, h2_23, Bool.and_true, Bool.and_false, Bool.true_and, Bool.false_and])
 have F := aI @denilL_dg h2_14
 iterate 10 refine SF ?_
 refine T2 (hK _ _ _ ?_)
 clear hK K
 refine aD (RT Tryz.results58 ?_)
 exact aC [] (.bool false) rfl (by simp only [iA, h2_14, Bool.and_true, Bool.and_false, Bool.true_and, Bool.false_and])


theorem cE0 (x y : Pk) (K : CV → Prop) : eR Tryz.prog .eql 68 (.c x.cv) (.c y.cv) K = K (.bool (aW8 x y)) := bO1 (by kernel_rfl) ty68 ty3 ty66 ty5 (by kernel_rfl) (by kernel_rfl) (by kernel_rfl) x y K

theorem aP8 (k : Ky) (hl : k.rs.length < 2 ^ 40) : aW Tryz.prog 59 [k.cv, k.cv] (fun v => v = .bool true) := by
 refine FW Tryz.func59 ?_
 refine R0 ?_
 refine aB fun K hK => Rg ?_
 have F := aI @cE0 (aI @aW9 @beq_self_eq_true.{0})
 iterate 31 refine SF ?_
 refine aZ (g := some (31, true)) rfl rfl fun K' hK' => T6 ?_
 refine C2 (bO8 k.rs k.rs (by omega)) ?_
 rintro u rfl
 refine AX (hK' _ _ ?_)
 clear hK' K'
 iterate 2 refine SF ?_
 refine T2 (hK _ _ _ ?_)
 clear hK K
 refine aD (RT Tryz.results59 ?_)
 exact aC [] (.bool true) rfl rfl

end Go.Proofs.YtenbfeemmpjdhaaGreatDoor

namespace Go.Proofs.YtenbfeemmpjdhaaGreatDoor
open Go Go.Hl Go.Pl
set_option maxRecDepth 10000
set_option maxHeartbeats 16000000

theorem aP9 (r : Rt) (b : aK) (l : List Dig) (t : Int) (hr : rSz r) (hlb : b.length < 2 ^ 40) (hll : l.length < 2 ^ 40) : cW Tryz.prog 18 [r.cv, .slc (b.map u8), .slc (l.map dg), .int .i64 t] (fun u v => u = (kF r b l t).cv ∧ v = .int .i64 (eQ r b l t)) := by
 refine FW Tryz.func18 ?_
 refine R0 ?_
 refine aB fun K hK => ?_
 refine aB fun K hK => Rg ?_
 refine S0 ?_
 refine HS rfl rfl fun K' hK' => T5 ?_
 refine C1 (gR r hr) ?_
 rintro u rfl
 refine AX (hK' _ _ ?_)
 clear hK' K'
 refine S0 ?_
 refine T2 (hK _ _ _ ?_)
 clear hK K
 refine aJ (b := !(bJ r)) rfl (fun hb => ?_) (fun hb => ?_)
 ·
  refine R0 ?_
  refine aD (RT Tryz.results18 ?_)
  have hE : eQ r b l t = 1 := by unfold eQ; rw [if_pos (by simpa using hb)]
  exact aL [] rt0.cv (.int .i64 1) rfl ⟨by unfold kF; rw [if_neg (by rw [hE]; decide)], by rw [hE]⟩
 have h1 : ¬ bJ r = false := by simpa using hb
 clear hb
 refine aG ?_
 refine T0 (hK _ _ _ ?_)
 clear hK K
 refine aB fun K hK => Rg ?_
 have F := @denilL_u8
 refine SF ?_
 refine HS rfl rfl fun K' hK' => T6 ?_
 refine D1 (bT2 b hlb) ?_
 rintro u v ⟨rfl, rfl⟩
 refine AX (hK' _ _ ?_)
 clear hK' K'
 iterate 6 refine SF ?_
 refine T2 (hK _ _ _ ?_)
 clear hK K
 refine aB fun K hK => ?_
 refine R0 ?_
 refine aJ (b := cP b != 0) rfl (fun hb => ?_) (fun hb => ?_)
 ·
  refine aB fun K hK => Rg ?_
  iterate 4 refine S0 ?_
  refine T2 (hK _ _ _ ?_)
  clear hK K
  refine aD (RT Tryz.results18 ?_)
  have h2 : cP b ≠ 0 := by simpa using hb
  have hE : eQ r b l t = cP b := by unfold eQ; rw [if_neg h1, if_pos h2]
  exact aL [] rt0.cv (.int .i64 (cP b)) rfl ⟨by unfold kF; rw [if_neg (by rw [hE]; exact h2)], by rw [hE]⟩
 have h2 : ¬ cP b ≠ 0 := by simpa using hb
 clear hb
 have hy := vS b
 have hx40 := hr.2.2
 refine aG ?_
 refine T0 (hK _ _ _ ?_)
 clear hK K
 refine aB fun K hK => ?_
 refine aB fun K hK => Rg ?_
 iterate 6 refine S0 ?_
 refine T2 (hK _ _ _ ?_)
 clear hK K
 refine aJ (b := (bY b).v != IntKind.i64.wrap (r.v + 1)) rfl (fun hb => ?_) (fun hb => ?_)
 ·
  refine R0 ?_
  refine aD (RT Tryz.results18 ?_)
  have hE : eQ r b l t = 6 := by unfold eQ; rw [if_neg h1, if_neg h2, if_pos (by simpa using hb)]
  exact aL [] rt0.cv (.int .i64 6) rfl ⟨by unfold kF; rw [if_neg (by rw [hE]; decide)], by rw [hE]⟩
 have h3 : ¬ (bY b).v ≠ IntKind.i64.wrap (r.v + 1) := by simpa using hb
 clear hb
 refine aG ?_
 refine T0 (hK _ _ _ ?_)
 clear hK K
 refine aB fun K hK => ?_
 refine R0 ?_
 refine aH ?_
 refine aT (α := {i : Nat // i ≤ r.x.length ∧ ∀ x ∈ r.x.take i, (!iU (bY b).x x.k || decide (x.t < iJ (bY b).x x.k)) = false}) (fun i => (fin [(2, .c (.slc (l.map dg))), (3, .c (.int .i64 t)), (4, .ptr 0 0), (8, .ptr 4 0), (10, .ptr 44 0), (12, .c (.int .i64 i.1))], fob [(0, .box 26 (.c r.cv)), (4, .box 26 (.c (.agg [.int .i64 0, .int .i64 0, .nils, .nils, .nils]))), (44, .box 26 (.c (bY b).cv))])) 100 (fun i => r.x.length - i.1) ⟨0, by omega, by simp⟩ (fF) ?_
 rintro ⟨i, hi, h0⟩
 refine aB fun K hK => ?_
 refine aB fun K hK => Rg ?_
 iterate 5 refine S0 ?_
 refine T2 (hK _ _ _ ?_)
 clear hK K
 refine aJ (b := decide ((i : Int) < r.x.length)) rfl (fun hb => ?_) (fun hb => ?_)
 ·
  have hlt : i < r.x.length := by simpa using hb
  clear hb
  refine aG ?_
  refine T0 (hK _ _ _ ?_)
  clear hK K
  refine aB fun K hK => ?_
  refine aH ?_
  refine aB fun K hK => DW [(0, [], []), (1, [], []), (2, [], []), (3, [], []), (4, [], []), (5, [], []), (6, [], []), (7, [], []), (8, [], []), (9, [], []), (10, [], []), (11, [], []), (12, [], [])] [0, 0, 2, 0, 14, 30, 62, 127, 255, 511, 511, 1023, 4095] ?_
  have F := aI @Int.natCast_nonneg (aI @Int.ofNat_lt (aI hlt (nM hlt)))
  iterate 7 refine WF ?_
  refine aN (g := none) rfl rfl fun K' hK' => T6 ?_
  refine D2 (rP (bY b) r.x[i].k hy.2.2) ?_
  rintro u v ⟨rfl, rfl⟩
  refine AX (hK' _ _ ?_)
  clear hK' K'
  iterate 5 refine WF ?_
  refine T2 (hK _ _ _ ?_)
  clear hK K
  refine aB fun K hK => Rg ?_
  iterate 3 refine SF ?_
  refine aE 53 rfl (fun h12_53 => ?_) (fun h12_53 => ?_)
  ·
   have F := aI @Int.natCast_nonneg (aI @Int.ofNat_lt (aI hlt (aI (nM hlt) h12_53)))
   iterate 9 refine SF ?_
   refine aE 63 rfl (fun h12_63 => ?_) (fun h12_63 => ?_)
   ·
    simp only [h12_63]
    refine T2 (hK _ _ _ ?_)
    clear hK K
    refine CT rfl ?_
    refine R0 ?_
    refine aD (RT Tryz.results18 ?_)
    have h4 : kE r (bY b) = false := nL hlt (by simp only [h12_53, h12_63, Bool.not_false, Bool.not_true, Bool.true_or, Bool.or_true, Bool.false_or])
    have hE : eQ r b l t = 1 := by unfold eQ; rw [if_neg h1, if_neg h2, if_neg h3, if_pos h4]
    exact aL [] rt0.cv (.int .i64 1) rfl ⟨by unfold kF; rw [if_neg (by rw [hE]; decide)], by rw [hE]⟩
   simp only [h12_63]
   refine T2 (hK _ _ _ ?_)
   clear hK K
   refine CF rfl ?_
   refine aG ?_
   refine T0 (hK _ _ _ ?_)
   clear hK K
   refine aM (by kernel_rfl) ?_
   refine TQ (bK i) ?_
   refine ⟨⟨i + 1, hlt, dO (p := fun x => (!iU (bY b).x x.k || decide (x.t < iJ (bY b).x x.k))) hlt (by simp only [h12_53, h12_63]; rfl) h0⟩, fF, ?_⟩
   show r.x.length - (i + 1) < r.x.length - i
   omega
  have F := aI @Int.natCast_nonneg (aI @Int.ofNat_lt (aI hlt (aI (nM hlt) h12_53)))
  iterate 9 refine SF ?_
  refine T2 (hK _ _ _ ?_)
  clear hK K
  refine CT rfl ?_
  refine R0 ?_
  refine aD (RT Tryz.results18 ?_)
  have h4 : kE r (bY b) = false := nL hlt (by simp only [h12_53, Bool.not_false, Bool.not_true, Bool.true_or, Bool.or_true, Bool.false_or])
  have hE : eQ r b l t = 1 := by unfold eQ; rw [if_neg h1, if_neg h2, if_neg h3, if_pos h4]
  exact aL [] rt0.cv (.int .i64 1) rfl ⟨by unfold kF; rw [if_neg (by rw [hE]; decide)], by rw [hE]⟩
 refine aS (T3 ?_)
 clear hK K
 refine AX (hK _ _ _ ?_)
 clear hK K
 refine aB fun K hK => ?_
 have hei : i = r.x.length := by simp at hb; omega
 subst hei
 rw [List.take_length] at h0
 have h4 : ¬ kE r (bY b) = false := by rw [aJ7 h0]; simp
 clear hb
 refine aB fun K hK => Rg ?_
 have F := @denilL_dg
 iterate 3 refine SF ?_
 refine HS rfl rfl fun K' hK' => T6 ?_
 refine C4 (vT r fI l t hr hll) ?_
 rintro u rfl
 refine AX (hK' _ _ ?_)
 clear hK' K'
 iterate 2 refine SF ?_
 refine aE 69 rfl (fun h14_69 => ?_) (fun h14_69 => ?_)
 ·
  have F := aI @denilL_dg h14_69
  iterate 3 refine SF ?_
  refine aZ (g := some (71, false)) rfl rfl fun K' hK' => T6 ?_
  refine C4 (vT (bY b) fI l t hy hll) ?_
  rintro u rfl
  refine AX (hK' _ _ ?_)
  clear hK' K'
  iterate 2 refine SF ?_
  refine aE 75 rfl (fun h14_75 => ?_) (fun h14_75 => ?_)
  ·
   simp only [h14_75]
   refine T2 (hK _ _ _ ?_)
   clear hK K
   refine CF rfl ?_
   refine aG ?_
   refine T0 (hK _ _ _ ?_)
   clear hK K
   refine R0 ?_
   refine aD (RT Tryz.results18 ?_)
   have hE : eQ r b l t = 0 := by unfold eQ; rw [if_neg h1, if_neg h2, if_neg h3, if_neg h4, if_pos (by simp only [h14_69, h14_75]; rfl)]
   refine aL [] (bY b).cv (.int .i64 0) ?_ ⟨by unfold kF; rw [if_pos hE], by rw [hE]⟩
   simp [HV.close, HV.closeL, HV.norm, HV.toC, HV.toCL, CV.denil, Rt.denil]
  simp only [h14_75]
  refine T2 (hK _ _ _ ?_)
  clear hK K
  refine CT rfl ?_
  refine R0 ?_
  refine aD (RT Tryz.results18 ?_)
  have hE : eQ r b l t = 7 := by unfold eQ; rw [if_neg h1, if_neg h2, if_neg h3, if_neg h4, if_neg (by simp only [h14_69, h14_75, Bool.and_false, Bool.false_and]; simp)]
  exact aL [] rt0.cv (.int .i64 7) rfl ⟨by unfold kF; rw [if_neg (by rw [hE]; decide)], by rw [hE]⟩
 have F := aI @denilL_dg h14_69
 iterate 6 refine SF ?_
 refine T2 (hK _ _ _ ?_)
 clear hK K
 refine CT rfl ?_
 refine R0 ?_
 refine aD (RT Tryz.results18 ?_)
 have hE : eQ r b l t = 7 := by unfold eQ; rw [if_neg h1, if_neg h2, if_neg h3, if_neg h4, if_neg (by simp only [h14_69, Bool.and_false, Bool.false_and]; simp)]
 exact aL [] rt0.cv (.int .i64 7) rfl ⟨by unfold kF; rw [if_neg (by rw [hE]; decide)], by rw [hE]⟩


theorem cE1 (x : Qt) (K : CV → Prop) : eR Tryz.prog .neq 64 (.c x.cv) (.c x.cv) K = K (.bool false) := by
 have h : CV.ofTy Tryz.prog 8 64 x.cv = true := by
  have e1 : Tryz.prog.cellsOf 9 = 1 := by kernel_rfl
  have e2 : Tryz.prog.cellsOf 3 = 1 := by kernel_rfl
  simp only [Qt.cv, CV.ofTy, ty64, CV.ofTyF, ty9, ty3, CV.cells, e1, e2, beq_self_eq_true, Bool.and_self]
 have ha : wO Tryz.prog 64 = true := by kernel_rfl
 simp only [Qt.cv] at h
 simp only [Qt.cv, eR, ha, h, and_self, true_and, CV.eqv, CV.eqvL, beq_self_eq_true, Bool.and_self, Bool.not_true]
theorem cE2 (x : Rv) (K : CV → Prop) : eR Tryz.prog .neq 51 (.c x.cv) (.c x.cv) K = K (.bool false) := by
 have e1 : Tryz.prog.cellsOf 49 = 32 := by kernel_rfl
 have e2 : Tryz.prog.cellsOf 2 = 1 := by kernel_rfl
 have hd : CV.ofTy Tryz.prog 7 49 (dg x.k) = true := zM (n := 5) ty49 ty5 (by kernel_rfl) x.k
 have h : CV.ofTy Tryz.prog 8 51 x.cv = true := by
  rw [CV.ofTy, ty51]
  simp only [Rv.cv, CV.ofTyF, hd, dg_cells, CV.ofTy, ty2, CV.cells, e1, e2, beq_self_eq_true, Bool.and_self]
 have ha : wO Tryz.prog 51 = true := by kernel_rfl
 have hq : CV.eqv (dg x.k) (dg x.k) = true := by
  simp only [dg, dgl, CV.eqv]
  exact (mY x.k.1 x.k.1).trans (beq_self_eq_true _)
 simp only [Rv.cv] at h
 simp only [Rv.cv, eR, ha, h, and_self, true_and, CV.eqv, CV.eqvL, hq, beq_self_eq_true, Bool.and_self, Bool.not_true]

theorem bB1 (r : Rt) (hr : rSz r) : aW Tryz.prog 19 [r.cv, r.cv] (fun v => v = .bool true) := by
 have hlq : r.q.length < 2 ^ 40 := hr.1.1
 have hlk : r.k.length < 2 ^ 40 := hr.2.1.1
 have hlx : r.x.length < 2 ^ 40 := hr.2.2
 refine FW Tryz.func19 ?_
 refine R0 ?_
 refine aB fun K hK => ?_
 refine aB fun K hK => Rg ?_
 have F := @bne_self_eq_false.{0}
 iterate 39 refine SF ?_
 refine T2 (hK _ _ _ ?_)
 clear hK K
 refine CF rfl ?_
 refine aG ?_
 refine T0 (hK _ _ _ ?_)
 clear hK K
 refine aB fun K hK => ?_
 refine R0 ?_
 refine aH ?_
 refine aT (α := {i : Nat // i ≤ r.q.length}) (fun i => (fin [(2, .ptr 0 0), (3, .ptr 4 0), (5, .c (.int .i64 i.1))], fob [(0, .box 26 (.c r.cv)), (4, .box 26 (.c r.cv))])) 200 (fun i => r.q.length - i.1) ⟨0, by omega⟩ (fF) ?_
 rintro ⟨i, hi⟩
 refine aB fun K hK => ?_
 refine aB fun K hK => Rg ?_
 iterate 5 refine S0 ?_
 refine T2 (hK _ _ _ ?_)
 clear hK K
 refine aJ (b := decide ((i : Int) < r.q.length)) rfl (fun hb => ?_) (fun hb => ?_)
 ·
  have hlt : i < r.q.length := by simpa using hb
  clear hb
  refine aG ?_
  refine T0 (hK _ _ _ ?_)
  clear hK K
  refine aB fun K hK => ?_
  refine aH ?_
  refine aB fun K hK => QR ?_
  have F := aI @Int.natCast_nonneg (aI @Int.ofNat_lt (aI hlt (aI (nM hlt) (aI @Qt.cells @cE1))))
  iterate 11 refine SF ?_
  refine T2 (hK _ _ _ ?_)
  clear hK K
  refine CF rfl ?_
  refine aG ?_
  refine T0 (hK _ _ _ ?_)
  clear hK K
  refine aM (by kernel_rfl) ?_
  refine TQ (bK i) ?_
  refine ⟨⟨i + 1, hlt⟩, fF, ?_⟩
  show r.q.length - (i + 1) < r.q.length - i
  omega
 refine aS (T3 ?_)
 clear hK K
 refine AX (hK _ _ _ ?_)
 clear hK K
 refine aB fun K hK => ?_
 refine R0 ?_
 refine aH ?_
 refine aT (α := {i : Nat // i ≤ r.k.length}) (fun i => (fin [(2, .ptr 0 0), (3, .ptr 4 0), (6, .c (.int .i64 i.1))], fob [(0, .box 26 (.c r.cv)), (4, .box 26 (.c r.cv))])) 300 (fun i => r.k.length - i.1) ⟨0, by omega⟩ (fF) ?_
 clear hb
 rintro ⟨i, hi⟩
 refine aB fun K hK => ?_
 refine aB fun K hK => Rg ?_
 iterate 5 refine S0 ?_
 refine T2 (hK _ _ _ ?_)
 clear hK K
 refine aJ (b := decide ((i : Int) < r.k.length)) rfl (fun hb => ?_) (fun hb => ?_)
 ·
  have hlt : i < r.k.length := by simpa using hb
  clear hb
  have hkr := (hr.2.1.2 _ (List.getElem_mem hlt)).2.1
  refine aG ?_
  refine T0 (hK _ _ _ ?_)
  clear hK K
  refine aB fun K hK => ?_
  refine aH ?_
  refine aB fun K hK => DW [(0, [], []), (1, [], []), (2, [], []), (3, [], []), (4, [], []), (5, [], []), (6, [], []), (7, [], []), (8, [], []), (9, [], []), (10, [], []), (11, [], [])] [0, 1, 0, 7, 15, 0, 32, 0, 224, 480, 1023, 2047] ?_
  have F := aI @Int.natCast_nonneg (aI @Int.ofNat_lt (aI hlt (aI (nM hlt) @Ky.cells)))
  iterate 10 refine WF ?_
  refine aN (g := none) rfl rfl fun K' hK' => T6 ?_
  refine C2 (aP8 r.k[i] (by omega)) ?_
  rintro u rfl
  refine AX (hK' _ _ ?_)
  clear hK' K'
  refine WF ?_
  refine T2 (hK _ _ _ ?_)
  clear hK K
  refine CF rfl ?_
  refine aG ?_
  refine T0 (hK _ _ _ ?_)
  clear hK K
  refine aM (by kernel_rfl) ?_
  refine TQ (bK i) ?_
  refine ⟨⟨i + 1, hlt⟩, fF, ?_⟩
  show r.k.length - (i + 1) < r.k.length - i
  omega
 refine aS (T3 ?_)
 clear hK K
 refine AX (hK _ _ _ ?_)
 clear hK K
 refine aB fun K hK => ?_
 refine R0 ?_
 refine aH ?_
 refine aT (α := {i : Nat // i ≤ r.x.length}) (fun i => (fin [(2, .ptr 0 0), (3, .ptr 4 0), (7, .c (.int .i64 i.1))], fob [(0, .box 26 (.c r.cv)), (4, .box 26 (.c r.cv))])) 400 (fun i => r.x.length - i.1) ⟨0, by omega⟩ (fF) ?_
 clear hb
 rintro ⟨i, hi⟩
 refine aB fun K hK => ?_
 refine aB fun K hK => Rg ?_
 iterate 5 refine S0 ?_
 refine T2 (hK _ _ _ ?_)
 clear hK K
 refine aJ (b := decide ((i : Int) < r.x.length)) rfl (fun hb => ?_) (fun hb => ?_)
 ·
  have hlt : i < r.x.length := by simpa using hb
  clear hb
  refine aG ?_
  refine T0 (hK _ _ _ ?_)
  clear hK K
  refine aB fun K hK => ?_
  refine aH ?_
  refine aB fun K hK => QR ?_
  have F := aI @Int.natCast_nonneg (aI @Int.ofNat_lt (aI hlt (aI (nM hlt) (aI @Rv.cells @cE2))))
  iterate 11 refine SF ?_
  refine T2 (hK _ _ _ ?_)
  clear hK K
  refine CF rfl ?_
  refine aG ?_
  refine T0 (hK _ _ _ ?_)
  clear hK K
  refine aM (by kernel_rfl) ?_
  refine TQ (bK i) ?_
  refine ⟨⟨i + 1, hlt⟩, fF, ?_⟩
  show r.x.length - (i + 1) < r.x.length - i
  omega
 refine aS (T3 ?_)
 clear hK K
 refine AX (hK _ _ _ ?_)
 clear hK K
 refine R0 ?_
 refine aD (RT Tryz.results19 ?_)
 exact aC [] (.bool true) rfl rfl

end Go.Proofs.YtenbfeemmpjdhaaGreatDoor

namespace Go.Proofs.YtenbfeemmpjdhaaGreatDoor
open Go Go.Hl Go.Pl
set_option maxRecDepth 10000
set_option maxHeartbeats 16000000
attribute [local simp] tp

theorem qY (i : Nat) (hi : i < 2 ^ 40) : aW Tryz.prog 50 [.int .i64 i] (fun v => v = (aE3 i).cv) := by
 have m1 : (i : Int).tmod 3 = ((i % 3 : Nat) : Int) := rfl
 have m2 : IntKind.i64.wrap ((i : Int) + 1) = ((i + 1 : Nat) : Int) := by rw [IntWalk.i64_in _ (by omega)]; omega
 have m3 := bX3 (i + 1)
 refine FW Tryz.func50 ?_
 refine R0 ?_
 refine aB fun K hK => Rg ?_
 have F := aI m1 (aI m2 m3)
 iterate 5 refine SF ?_
 refine HS rfl rfl fun K' hK' => T6 ?_
 rw [aM5 (UInt8.ofNat (i + 1)) 77 rfl rfl]
 refine AX (hK' _ _ ?_)
 clear hK' K'
 refine HS rfl rfl fun K' hK' => T6 ?_
 rw [qL _ _ rfl rfl]
 refine AX (hK' _ _ ?_)
 clear hK' K'
 refine SF ?_
 refine T2 (hK _ _ _ ?_)
 clear hK K
 refine aD (RT Tryz.results50 ?_)
 exact aC [] (aE3 i).cv rfl rfl


theorem vU (i : Nat) (hi : i < 2 ^ 40) : aW Tryz.prog 47 [.int .i64 i] (fun v => v = dg (mid i)) := by
 refine FW Tryz.func47 ?_
 refine R0 ?_
 refine aB fun K hK => Rg ?_
 refine S0 ?_
 refine HS rfl rfl fun K' hK' => T5 ?_
 refine C1 (qY i hi) ?_
 rintro u rfl
 refine AX (hK' _ _ ?_)
 clear hK' K'
 refine HS rfl rfl fun K' hK' => T5 ?_
 refine C1 (qS (aE3 i)) ?_
 rintro u rfl
 refine AX (hK' _ _ ?_)
 clear hK' K'
 refine S0 ?_
 refine T2 (hK _ _ _ ?_)
 clear hK K
 refine aD (RT Tryz.results47 ?_)
 exact aC [] (dg (mid i)) rfl rfl


theorem yR (l : List Ky) (k : Ky) (hl : l.length < 2 ^ 40) : aW Tryz.prog 49 [.slc (l.map Ky.cv), k.cv] (fun v => v = .slc ((uA l k).map Ky.cv)) := by
 refine FW Tryz.func49 ?_
 refine R0 ?_
 refine R0 ?_
 refine R0 ?_
 refine aB fun K hK => ?_
 refine aH ?_
 refine eH 5 0 70 21 rfl rfl rfl rfl ?_
 refine aT (α := {i : Nat // i ≤ l.length ∧ ∀ x ∈ l.take i, dlt (kid x) (kid k) = true}) (fun i => (fin [(0, .c (.slc (l.map Ky.cv))), (3, .ptr 0 0), (5, .own 16 i.1), (6, .c (.int .i64 i.1))], fob [(0, .box 70 (.c k.cv)), (16, .row 70 21 ((l.take i.1).map Ky.cv))])) 100 (fun i => l.length - i.1) ⟨0, by omega, by simp⟩ (fF) ?_
 rintro ⟨i, hi, h0⟩
 have hti : (l.take i).length = i := by simp; omega
 refine aB fun K hK => ?_
 by_cases hlt : i < l.length
 ·
  refine aB fun K hK => DW [(0, [], []), (1, [], []), (2, [], []), (3, [], []), (4, [], []), (5, [], []), (6, [], []), (7, [], []), (8, [], []), (9, [], []), (11, [], []), (12, [], []), (10, [], [11, 12]), (13, [], []), (14, [], []), (15, [], [])] [0, 0, 2, 7, 15, 31, 31, 127, 255, 511, 1023, 31, 2079, 8191, 16383, 32767] ?_
  have F := aI @Int.natCast_nonneg (aI @Int.ofNat_lt (aI hlt (nM hlt)))
  iterate 12 refine WF ?_
  refine aN (g := some (11, true)) rfl rfl fun K' hK' => T6 ?_
  refine C1 (qS l[i].p) ?_
  rintro u rfl
  refine AX (hK' _ _ ?_)
  clear hK' K'
  refine aN (g := some (11, true)) rfl rfl fun K' hK' => T6 ?_
  refine C1 (qS k.p) ?_
  rintro u rfl
  refine AX (hK' _ _ ?_)
  clear hK' K'
  refine aN (g := some (11, true)) rfl rfl fun K' hK' => T6 ?_
  refine C2 (pM (kid l[i]) (kid k)) ?_
  rintro u rfl
  refine AX (hK' _ _ ?_)
  clear hK' K'
  refine WF ?_
  refine T2 (hK _ _ _ ?_)
  clear hK K
  refine aJ (b := dlt (kid l[i]) (kid k)) rfl (fun hb => ?_) (fun hb => ?_)
  ·
   refine aG ?_
   refine T0 (hK _ _ _ ?_)
   clear hK K
   refine aH ?_
   refine aB fun K hK => Rg ?_
   have F := aI @Int.natCast_nonneg (aI @Int.ofNat_lt (aI hlt (aI (nM hlt) (aI hti @List.length_append.{0}))))
   iterate 8 refine SF ?_
   refine T2 (hK _ _ _ ?_)
   clear hK K
   refine aM (by kernel_rfl) ?_
   refine TQ (bK i) ?_
   refine ⟨⟨i + 1, by omega, fun x hx => ?_⟩, aQ (by omega) ?_ ?_, ?_⟩
   ·
    rw [List.take_succ_eq_append_getElem hlt, List.mem_append, List.mem_singleton] at hx
    rcases hx with hx | rfl
    ·
     exact h0 x hx
    exact hb
   ·
    simp [aX, upd_at, fin_at, HV.men]
   ·
    refine ⟨rfl, by omega, trivial, ?_, by omega, trivial, trivial⟩
    simp only [List.take_succ_eq_append_getElem hlt, List.map_append]
    rfl
   show l.length - (i + 1) < l.length - i
   omega
  refine aS (T3 ?_)
  clear hK K
  refine AX (hK _ _ _ ?_)
  clear hK K
  refine aB fun K hK => DW [(0, [], []), (1, [], []), (2, [], []), (4, [2], []), (5, [2], []), (6, [2], []), (3, [], [4, 5, 6]), (7, [], []), (8, [], [])] [0, 0, 2, 7, 0, 0, 48, 127, 255] ?_
  iterate 9 refine W0 ?_ (e := fun _ h_ => by simp only [sH, ↓sP, sA, tyS, simprocAttr, hti, ← List.map_drop, ← List.map_take, uJ]; exact AX h_)
  refine T2 (hK _ _ _ ?_)
  clear hK K
  refine aD (RT Tryz.results49 ?_)
  refine aC [16] (.slc ((l.take i ++ k :: l.drop i).map Ky.cv)) ?_ (by rw [aS1 hi h0 fun h => hb])
  simp [HV.close, upd_at, HV.norm, HV.toC, List.take_of_length_le]
 refine aB fun K hK => DW [(0, [], []), (1, [], []), (2, [], []), (3, [], []), (4, [], []), (5, [], []), (6, [], []), (7, [], []), (8, [], []), (9, [], []), (11, [], []), (12, [], []), (10, [], [11, 12]), (13, [], []), (14, [], []), (15, [], [])] [0, 0, 2, 7, 15, 31, 31, 127, 255, 511, 1023, 31, 2079, 8191, 16383, 32767] ?_
 have F := aI @Int.ofNat_lt hlt
 iterate 16 refine WF ?_
 refine T2 (hK _ _ _ ?_)
 clear hK K
 refine aJ (b := _) rfl (fun hb => ?_) (fun hb => ?_)
 ·
  cases hb
 refine aS (T3 ?_)
 clear hK K
 refine AX (hK _ _ _ ?_)
 clear hK K
 refine aB fun K hK => DW [(0, [], []), (1, [], []), (2, [], []), (4, [2], []), (5, [2], []), (6, [2], []), (3, [], [4, 5, 6]), (7, [], []), (8, [], [])] [0, 0, 2, 7, 0, 0, 48, 127, 255] ?_
 iterate 9 refine W0 ?_ (e := fun _ h_ => by simp only [sH, ↓sP, sA, tyS, simprocAttr, hti, ← List.map_drop, ← List.map_take, uJ]; exact AX h_)
 refine T2 (hK _ _ _ ?_)
 clear hK K
 refine aD (RT Tryz.results49 ?_)
 refine aC [16] (.slc ((l.take i ++ k :: l.drop i).map Ky.cv)) ?_ (by rw [aS1 hi h0 fun h => absurd h hlt])
 simp [HV.close, upd_at, HV.norm, HV.toC, List.take_of_length_le]


theorem bT4 (L : List Int) (a : Nat) (ha : a + 20 < 2 ^ 40) : bM5 Tryz.prog 69 39 (tp L a) [] (fun u v' => ∃ (ws : List aK) (a' : Nat), u = .slc (ws.map .str) ∧ v' = tp L a' ∧ a' ≤ a + 10 ∧ ws.length ≤ 11 ∧ ∀ w ∈ ws, w ∈ roles10) := by
 refine bS Tryz.func69 rfl (by kernel_rfl) (fW _ _ _) (Nat.le_of_ble_eq_true rfl) ?_
 refine R0 ?_
 refine R0 ?_
 refine aB fun K hK => Rg ?_
 refine HS rfl rfl fun K' hK' => T5 ?_
 refine C0 uV ?_
 rintro u rfl
 refine AX (hK' _ _ ?_)
 clear hK' K'
 refine S0 ?_
 refine T2 (hK _ _ _ ?_)
 clear hK K
 refine aB fun K hK => ?_
 refine R0 ?_
 refine aH ?_
 refine eH 3 0 9 1 rfl rfl rfl rfl ?_
 refine aT (α := {x : Nat × Nat × List aK // x.1 ≤ 10 ∧ x.2.1 ≤ a + x.1 ∧ x.2.2.length ≤ x.1 ∧ ∀ w ∈ x.2.2, w ∈ roles10}) (fun x => (fin [(0, .ptr 0 0), (3, .own 21 x.1.2.2.length), (4, .c (.slc (roles10.map .str))), (5, .c (.int .i64 x.1.1))], fob [(0, .box 39 (.c (tp L x.1.2.1))), (21, .row 9 1 (x.1.2.2.map .str))])) 100 (fun x => 10 - x.1.1) ⟨(0, a, []), by omega, by simp, by simp, by simp⟩ (fF) ?_
 rintro ⟨⟨i, b, ws⟩, hi, hb0, hwl, hwm⟩
 simp only at hi hb0 hwl hwm ⊢
 have hrl : (roles10.map CV.str).length = 10 := rfl
 refine aB fun K hK => ?_
 refine aB fun K hK => Rg ?_
 have F := hrl
 iterate 4 refine SF ?_
 refine T2 (hK _ _ _ ?_)
 clear hK K
 refine aJ (b := decide ((i : Int) < 10)) rfl (fun hb => ?_) (fun hb => ?_)
 ·
  have hlt : i < 10 := by simp at hb; omega
  have hlt' : (i : Int) < 10 := by omega
  have hlr : i < roles10.length := hlt
  refine aG ?_
  refine T0 (hK _ _ _ ?_)
  clear hK K
  refine aB fun K hK => ?_
  have key : ∀ (b' : Nat) (ws' : List aK) fr ob nx, b' ≤ a + (i + 1) → ws'.length ≤ i + 1 → (∀ w ∈ ws', w ∈ roles10) → Fits 1 fr ob (fin [(0, .ptr 0 0), (3, .own 21 ws'.length), (4, .c (.slc (roles10.map .str))), (5, .c (.int .i64 i))]) (fob [(0, .box 39 (.c (tp L b'))), (21, .row 9 1 (ws'.map .str))]) 300 → K fr ob nx := by
   intro b' ws' fr ob nx w1 w2 w3 hf
   refine hK _ _ _ (bE hf ?_)
   clear hf hK K
   refine aM (by kernel_rfl) ?_
   refine TQ (bK i) ?_
   refine ⟨⟨(i + 1, b', ws'), hlt, w1, w2, w3⟩, fF, ?_⟩
   show 10 - (i + 1) < 10 - i
   omega
  refine aH ?_
  refine aB fun K hK => Rg ?_
  refine S0 ?_
  refine HS rfl rfl fun K' hK' => T5 ?_
  refine bI (args := [_]) (bV L b 3 (by omega) (by omega)) rfl (by simp) ⟨rfl, rfl, rfl, rfl⟩ ?_
  rintro u v' ⟨x, b', rfl, rfl, h1, h2, h3, h4⟩
  refine AX (hK' _ _ ?_)
  clear hK' K'
  refine S0 ?_
  refine T2 (hK _ _ _ ?_)
  clear hK K
  refine aJ (b := decide (0 < x)) rfl (fun hb => ?_) (fun hb => ?_)
  ·
   refine Rg ?_
   have F := aI @Int.natCast_nonneg (aI hrl (aI hlt' (aI hlr (aI (nM hlr) @List.length_append.{0}))))
   iterate 8 refine SF ?_
   refine T4 ?_
   exact key b' (ws ++ [roles10[i]]) _ _ _ (by omega) (by simp; omega) (fun w hw => by
    rcases List.mem_append.1 hw with hw | hw
    ·
     exact hwm w hw
    rw [List.mem_singleton] at hw; rw [hw]; exact List.getElem_mem _) (fF)
  refine aG (T3 ?_)
  exact key b' ws _ _ _ (by omega) (by omega) hwm (fF)
 clear hb
 refine aS (T3 ?_)
 clear hK K
 refine AX (hK _ _ _ ?_)
 clear hK K
 refine aB fun K hK => ?_
 have key : ∀ (ws' : List aK) fr ob nx, ws'.length ≤ 11 → (∀ w ∈ ws', w ∈ roles10) → Fits 1 fr ob (fin [(0, .ptr 0 0), (3, .own 21 ws'.length)]) (fob [(0, .box 39 (.c (tp L b))), (21, .row 9 1 (ws'.map .str))]) 300 → K fr ob nx := by
  intro ws' fr ob nx w2 w3 hf
  refine hK _ _ _ (bE hf ?_)
  clear hf hK K
  refine R0 ?_
  refine aD (RT Tryz.results69 ?_)
  refine jJ [21] (.slc (ws'.map .str)) (tp L b) ?_ rfl ?_ (by simp) ⟨ws', b, rfl, rfl, by omega, w2, w3⟩
  ·
   simp [HV.close, HV.norm, HV.toC, fob_at]
  simp [HV.close, HV.closeL, tp, CV.denil, CV.denilL, denilL_int, HV.norm, HV.toC, HV.toCL]
 refine R0 ?_
 refine aJ (b := (ws.length : Int) == 0) rfl (fun hb => ?_) (fun hb => ?_)
 ·
  refine Rg ?_
  have F := @List.length_append.{0}
  iterate 4 refine SF ?_
  refine T4 ?_
  exact key (ws ++ [tZ]) _ _ _ (by simp; omega) (fun w hw => by
   rcases List.mem_append.1 hw with hw | hw
   ·
    exact hwm w hw
   rw [List.mem_singleton] at hw; rw [hw]; exact bF6) (aQ (by omega) (by simp [aX, fin_at, finA_at, upd_at, HV.men, HV.menL, HV.norm, HV.toC, HV.toCL]) (by simp [bB, fob_at, upd_at, none0_at, bU, HO.men, HV.men, HV.menL, HV.norm, HV.toC, HV.toCL]; rfl))
 refine aG (T3 ?_)
 exact key ws _ _ _ (by omega) hwm (fF)


end Go.Proofs.YtenbfeemmpjdhaaGreatDoor

namespace Go.Proofs.YtenbfeemmpjdhaaGreatDoor
open Go Go.Hl Go.Pl
set_option maxRecDepth 10000
set_option maxHeartbeats 16000000
attribute [local simp] tp

theorem qZ (r : Rt) (x : Rv) (hr : rSz r) : aW Tryz.prog 52 [r.cv, x.cv] (fun v => ∃ xs : List Rv, v = (Rt.mk r.v r.e r.q r.k xs).cv ∧ xs.length ≤ r.x.length + 1) := by
 have hlx : r.x.length < 2 ^ 40 := hr.2.2
 refine FW Tryz.func52 ?_
 refine R0 ?_
 refine R0 ?_
 refine aB fun K hK => ?_
 refine R0 ?_
 refine aH ?_
 refine eH 5 0 51 33 rfl rfl rfl rfl ?_
 refine aT (α := {y : Nat × List Rv // y.1 ≤ r.x.length ∧ y.2.length ≤ y.1}) (fun y => (fin [(2, .ptr 0 0), (3, .ptr 4 0), (4, .ptr 8 0), (5, .own 20 y.1.2.length), (6, .c (.int .i64 y.1.1))], fob [(0, .box 26 (.c r.cv)), (4, .box 51 (.c x.cv)), (8, .box 26 (.c zR)), (20, .row 51 33 (y.1.2.map Rv.cv))])) 100 (fun y => r.x.length - y.1.1) ⟨(0, []), by simp, by simp⟩ (aQ (by omega) (by simp [aX, fin_at, finA_at, upd_at, HV.men, HV.menL, HV.norm, HV.toC, HV.toCL]) (by simp [bB, fob_at, upd_at, none0_at, bU, HO.men, HV.men, HV.menL, HV.norm, HV.toC, HV.toCL]; rfl)) ?_
 rintro ⟨⟨i, ys⟩, hi, hy⟩
 simp only at hi hy ⊢
 refine aB fun K hK => ?_
 refine aB fun K hK => Rg ?_
 iterate 5 refine S0 ?_
 refine T2 (hK _ _ _ ?_)
 clear hK K
 refine aJ (b := decide ((i : Int) < r.x.length)) rfl (fun hb => ?_) (fun hb => ?_)
 ·
  have hlt : i < r.x.length := by simpa using hb
  refine aG ?_
  refine T0 (hK _ _ _ ?_)
  clear hK K
  refine aB fun K hK => ?_
  have key : ∀ (ys' : List Rv) fr ob nx, ys'.length ≤ i + 1 → Fits 0 fr ob (fin [(2, .ptr 0 0), (3, .ptr 4 0), (4, .ptr 8 0), (5, .own 20 ys'.length), (6, .c (.int .i64 i))]) (fob [(0, .box 26 (.c r.cv)), (4, .box 51 (.c x.cv)), (8, .box 26 (.c zR)), (20, .row 51 33 (ys'.map Rv.cv))]) 400 → K fr ob nx := by
   intro ys' fr ob nx w1 hf
   refine hK _ _ _ (bE hf ?_)
   clear hf hK K
   refine aM (by kernel_rfl) ?_
   refine TQ (bK i) ?_
   refine ⟨⟨(i + 1, ys'), hlt, w1⟩, fF, ?_⟩
   show r.x.length - (i + 1) < r.x.length - i
   omega
  refine aH ?_
  refine aB fun K hK => QR ?_
  have F := aI @Int.natCast_nonneg (aI @Int.ofNat_lt (aI hlt (nM hlt)))
  iterate 9 refine SF ?_
  refine T2 (hK _ _ _ ?_)
  clear hK K
  refine aJ (b := !(r.x[i].k == x.k)) rfl (fun hb => ?_) (fun hb => ?_)
  ·
   refine Rg ?_
   have F := aI @Int.natCast_nonneg (aI @Int.ofNat_lt (aI hlt (aI (nM hlt) @List.length_append.{0})))
   iterate 9 refine SF ?_
   refine T4 ?_
   exact key (ys ++ [r.x[i]]) _ _ _ (by simp; omega) (fF)
  refine aG (T3 ?_)
  exact key ys _ _ _ (by omega) (fF)
 clear hb
 refine aS (T3 ?_)
 clear hK K
 refine AX (hK _ _ _ ?_)
 clear hK K
 refine aB fun K hK => Rg ?_
 have F := @List.length_append.{0}
 iterate 5 refine SF ?_
 refine T2 (hK _ _ _ ?_)
 clear hK K
 refine aB fun K hK => ?_
 have key : ∀ (ws : List Rv) fr ob nx, ws.length ≤ r.x.length + 1 → Fits 0 fr ob (fin [(2, .ptr 0 0), (4, .ptr 8 0), (5, .own 20 ws.length)]) (fob [(0, .box 26 (.c r.cv)), (8, .box 26 (.c zR)), (20, .row 51 33 (ws.map Rv.cv))]) 600 → K fr ob nx := by
  intro ws fr ob nx w1 hf
  refine hK _ _ _ (bE hf ?_)
  clear hf hK K
  refine bT [20] (bE (fr2 := fin [(2, .ptr 0 0), (4, .ptr 8 0), (5, .c (.slc (ws.map Rv.cv)))]) (ob2 := fob [(0, .box 26 (.c r.cv)), (8, .box 26 (.c (Rt.cv ⟨0, 0, [], [], []⟩)))]) (nx2 := 700) (aQ (by omega) (by simp [aX, cD, fin_at, finA_at, upd_at, fob_at, HV.close, HV.closeL, CV.denil, CV.denilL, denilL_str, denilL_Rv, denilL_Qt, denilL_Ky, HV.men, HV.menL, HV.norm, HV.toC, HV.toCL]) (by simp [bB, cE, fob_at, upd_at, none0_at, bU, HO.close, HV.close, HV.closeL, HO.men, HV.men, HV.menL, HV.norm, HV.toC, HV.toCL, Rt.denil, zR, Rt.cv, CV.denil, CV.denilL, denilL_str, denilL_Rv, denilL_Qt, denilL_Ky])) ?_)
  refine aB fun K hK => Rg ?_
  iterate 3 refine S0 ?_
  refine T2 (hK _ _ _ ?_)
  clear hK K
  refine R0 ?_
  refine aD (RT Tryz.results52 ?_)
  exact aC [] (Rt.mk r.v r.e r.q r.k ws).cv (eD (Rt.denil _)) ⟨ws, rfl, w1⟩
 refine bE (fr2 := fin [(2, .ptr 0 0), (3, .ptr 4 0), (4, .ptr 8 0), (5, .own 20 (ys ++ [x]).length)]) (ob2 := fob [(0, .box 26 (.c r.cv)), (4, .box 51 (.c x.cv)), (8, .box 26 (.c zR)), (20, .row 51 33 ((ys ++ [x]).map Rv.cv))]) (nx2 := 400) (fF) ?_
 obtain ⟨zs, hzs⟩ : ∃ zs, zs = ys ++ [x] := ⟨_, rfl⟩
 have hzl : zs.length = ys.length + 1 := by rw [hzs]; simp
 rw [← hzs]
 clear hzs
 have m1 : IntKind.i64.wrap ((zs.length : Int) - 1) = ((zs.length - 1 : Nat) : Int) := by rw [IntWalk.i64_in _ (by omega)]; omega
 refine aB fun K hK => Rg ?_
 have F := m1
 iterate 4 refine SF ?_
 refine T2 (hK _ _ _ ?_)
 clear hK K
 refine aH ?_
 refine aT (α := {y : Nat × List Rv // y.1 < zs.length ∧ y.2.length = zs.length}) (fun y => (fin [(2, .ptr 0 0), (3, .ptr 4 0), (4, .ptr 8 0), (5, .own 20 zs.length), (7, .c (.int .i64 y.1.1))], fob [(0, .box 26 (.c r.cv)), (4, .box 51 (.c x.cv)), (8, .box 26 (.c zR)), (20, .row 51 33 (y.1.2.map Rv.cv))])) 500 (fun y => y.1.1) ⟨(zs.length - 1, zs), by simp only; omega, rfl⟩ (fF) ?_
 rintro ⟨⟨j, ws⟩, hj, hw⟩
 simp only at hj hw ⊢
 have hjw : j < ws.length := by omega
 have hj1 : j - 1 < ws.length := by omega
 have hj2 : j - 1 < zs.length := by omega
 have hm : 0 < j → IntKind.i64.wrap ((j : Int) - 1) = ((j - 1 : Nat) : Int) := fun h => by rw [IntWalk.i64_in _ (by omega)]; omega
 have hwl : (ws.map Rv.cv).length = zs.length := by rw [List.length_map, hw]
 have hwne : ¬ ws = [] := by rintro rfl; simp at hw; omega
 refine aB fun K hK => ?_
 by_cases h0 : 0 < j
 ·
  refine aB fun K hK => DW [(0, [], []), (1, [], []), (2, [], []), (3, [], []), (4, [], []), (5, [], []), (6, [], []), (7, [], []), (8, [], []), (9, [], []), (10, [], []), (11, [], []), (12, [], []), (13, [], []), (14, [], []), (15, [], [])] [0, 1, 3, 7, 7, 31, 63, 127, 7, 7, 519, 1799, 3847, 7943, 16383, 32767] ?_
  iterate 14 refine W0 ?_ (e := fun _ h_ => by simp only [sH, ↓sP, sA, tyS, simprocAttr, List.map_eq_nil_iff, hwne, Int.natCast_pos, h0, hm, hw, hj, hj2, hjw, hj1, aO hjw, aO hj1, Int.natCast_nonneg, Int.ofNat_lt]; exact AX h_)
  refine aN (g := some (41, true)) rfl rfl fun K' hK' => ?_
  simp only [sH, ↓sP, sA, tyS, simprocAttr, List.map_eq_nil_iff, hwne, Int.natCast_pos, h0, hm, hw, hj, hj2, hjw, hj1, aO hjw, aO hj1, Int.natCast_nonneg, Int.ofNat_lt]
  refine C2 (pM ws[j].k ws[j - 1].k) ?_
  rintro u rfl
  refine AX (hK' _ _ ?_)
  clear hK' K'
  refine W0 ?_ (e := fun _ h_ => by simp only [sH, ↓sP, sA, tyS, simprocAttr, List.map_eq_nil_iff, hwne, Int.natCast_pos, h0, hm, hw, hj, hj2, hjw, hj1, aO hjw, aO hj1, Int.natCast_nonneg, Int.ofNat_lt]; exact AX h_)
  refine T2 (hK _ _ _ ?_)
  clear hK K
  refine aJ (b := dlt ws[j].k ws[j - 1].k) rfl (fun hb => ?_) (fun hb => ?_)
  ·
   refine aG ?_
   refine T0 (hK _ _ _ ?_)
   clear hK K
   refine aB fun K hK => ?_
   refine aH ?_
   have hjs : j - 1 < (ws.set j ws[j - 1]).length := by rw [List.length_set]; exact hj1
   refine DW [(0, [], []), (1, [], []), (2, [], []), (3, [], []), (4, [], []), (5, [], []), (6, [], []), (7, [], []), (8, [], []), (9, [], []), (10, [], []), (11, [], []), (12, [], []), (13, [], []), (14, [], []), (15, [], [2, 3, 4]), (16, [], []), (17, [], [])] [0, 0, 0, 0, 8, 0, 0, 64, 224, 480, 0, 0, 3072, 7168, 16355, 32739, 65535, 131071] ?_
   iterate 18 refine W0 ?_ (e := fun _ h_ => by simp only [sH, ↓sP, sA, tyS, simprocAttr, aO hjs, List.map_eq_nil_iff, List.set_eq_nil_iff, hwne, hm, h0, hw, hj, hj2, hjw, hj1, aO hjw, aO hj1, Int.natCast_nonneg, Int.ofNat_lt, List.length_set, ← List.map_set]; exact AX h_)
   refine T2 (hK _ _ _ ?_)
   clear hK K
   refine aM (by kernel_rfl) ?_
   simp only [↓sP, sA, tyS, simprocAttr, hm, h0]
   refine ⟨⟨(j - 1, (ws.set j ws[j - 1]).set (j - 1) ws[j]), by simp only; omega, by simp [hw]⟩, fF, ?_⟩
   show j - 1 < j
   omega
  refine aS (T3 ?_)
  clear hK K
  rw [← hw] 
  exact key ws _ _ _ (by omega) (fF)
 refine aB fun K hK => DW [(0, [], []), (1, [], []), (2, [], []), (3, [], []), (4, [], []), (5, [], []), (6, [], []), (7, [], []), (8, [], []), (9, [], []), (10, [], []), (11, [], []), (12, [], []), (13, [], []), (14, [], []), (15, [], [])] [0, 1, 3, 7, 7, 31, 63, 127, 7, 7, 519, 1799, 3847, 7943, 16383, 32767] ?_
 have F := aI @Int.natCast_pos h0
 iterate 16 refine WF ?_
 refine T2 (hK _ _ _ ?_)
 clear hK K
 refine aJ (b := _) rfl (fun hb => ?_) (fun hb => ?_)
 ·
  cases hb
 refine aS (T3 ?_)
 clear hK K
 rw [← hw] 
 exact key ws _ _ _ (by omega) (fF)


theorem aK0 : aW Tryz.prog 13 [] (fun v => v = full.cv) := by
 refine FW Tryz.func13 ?_
 refine R0 ?_
 refine R0 ?_
 refine aB fun K hK => Rg ?_
 refine HS rfl rfl fun K' hK' => T5 ?_
 refine C0 uV ?_
 rintro u rfl
 refine AX (hK' _ _ ?_)
 clear hK' K'
 refine S0 ?_
 refine T2 (hK _ _ _ ?_)
 clear hK K
 refine aB fun K hK => ?_
 refine R0 ?_
 refine aH ?_
 refine gL 8 2 64 2 rfl rfl rfl rfl ?_
 refine aT (α := {i : Nat // i ≤ 10}) (fun i => (fin [(0, .ptr 0 0), (1, .ptr 8 0), (2, .c (.slc (roles10.map .str))), (3, .c (.int .i64 i.1))], fob [(0, .box 26 (.c zR)), (8, .box 26 (.agg [.c (.int .i64 1), .c (.int .i64 1099511627776), .own 28 i.1, .c .nils, .c .nils])), (28, .row 64 2 ((qz i.1).map Qt.cv))])) 100 (fun i => 10 - i.1) ⟨0, by omega⟩ (aQ (by omega) (by simp [aX, fin_at, finA_at, upd_at, HV.men, HV.menL, HV.norm, HV.toC, HV.toCL]) (by simp [bB, fob_at, upd_at, none0_at, bU, HO.men, HV.men, HV.menL, HV.norm, HV.toC, HV.toCL, zR, qz])) ?_
 rintro ⟨i, hi⟩
 have hrl : (roles10.map CV.str).length = 10 := rfl
 have hql := bF7 hi
 have hq10 : full.q.length = 10 := rfl
 refine aB fun K hK => ?_
 refine aB fun K hK => Rg ?_
 have F := hrl
 iterate 4 refine SF ?_
 refine T2 (hK _ _ _ ?_)
 clear hK K
 refine aJ (b := decide ((i : Int) < 10)) rfl (fun hb => ?_) (fun hb => ?_)
 ·
  have hlt : i < 10 := by simp at hb; omega
  have hlt' : (i : Int) < 10 := by omega
  have hlr : i < roles10.length := hlt
  refine aG ?_
  refine T0 (hK _ _ _ ?_)
  clear hK K
  refine aB fun K hK => ?_
  refine aH ?_
  refine DW [(0, [], []), (1, [], []), (2, [], []), (3, [], []), (4, [], []), (5, [], []), (6, [], []), (7, [], []), (8, [], []), (9, [], []), (10, [], [])] [0, 1, 0, 0, 12, 28, 60, 124, 255, 511, 1023] ?_
  have F := aI @Int.natCast_nonneg (aI hrl (aI hlt' (aI hlr (aI (nM hlr) (aI @List.length_append.{0} hql)))))
  iterate 6 refine WF ?_
  refine aN (g := none) rfl rfl fun K' hK' => T6 ?_
  rw [qM _ _ rfl rfl]
  refine AX (hK' _ _ ?_)
  clear hK' K'
  iterate 4 refine WF ?_
  refine T2 (hK _ _ _ ?_)
  clear hK K
  refine aM (by kernel_rfl) ?_
  refine TQ (bK i) ?_
  refine ⟨⟨i + 1, hlt⟩, aQ (by omega) (by simp [aX, fin_at, finA_at, upd_at, HV.men, HV.menL, HV.norm, HV.toC, HV.toCL]) (by simp [bB, fob_at, upd_at, none0_at, bU, HO.men, HV.men, HV.menL, HV.norm, HV.toC, HV.toCL, zR, bN8 hlr]), ?_⟩
  show 10 - (i + 1) < 10 - i
  omega
 refine aS (T3 ?_)
 clear hK K
 refine AX (hK _ _ _ ?_)
 clear hK K
 refine aB fun K hK => ?_
 have hei : i = 10 := by simp at hb; omega
 subst hei
 clear hb
 refine bT [28] (bE (fr2 := fin [(0, .ptr 0 0), (1, .ptr 8 0), (2, .c (.slc (roles10.map .str)))]) (ob2 := fob [(0, .box 26 (.c (Rt.cv ⟨0, 0, [], [], []⟩))), (8, .box 26 (.c (Rt.cv ⟨1, 1099511627776, full.q, [], []⟩)))]) (nx2 := 200) (aQ (by omega) (by simp [aX, cD, fin_at, finA_at, upd_at, fob_at, HV.close, HV.closeL, CV.denil, CV.denilL, denilL_str, denilL_Rv, denilL_Qt, denilL_Ky, HV.men, HV.menL, HV.norm, HV.toC, HV.toCL]) (by simp [bB, cE, fob_at, upd_at, none0_at, bU, HO.close, HV.close, HV.closeL, HO.men, HV.men, HV.menL, HV.norm, HV.toC, HV.toCL, Rt.denil, zR, Rt.cv, CV.denil, CV.denilL, denilL_str, denilL_Rv, denilL_Qt, denilL_Ky, hql, bF8, hq10])) ?_)
 refine R0 ?_
 refine aH ?_
 refine aT (α := {i : Nat // i ≤ 5}) (fun i => (fin [(0, .ptr 0 0), (1, .ptr 8 0), (2, .c (.slc (roles10.map .str))), (4, .c (.int .i64 i.1))], fob [(0, .box 26 (.c (Rt.cv ⟨0, 0, [], [], []⟩))), (8, .box 26 (.c (Rt.cv ⟨1, 1099511627776, full.q, kz i.1, []⟩)))])) 300 (fun i => 5 - i.1) ⟨0, by omega⟩ (aQ (by omega) (by simp [aX, fin_at, finA_at, upd_at, HV.men, HV.menL, HV.norm, HV.toC, HV.toCL]) (by simp [bB, fob_at, upd_at, none0_at, bU, HO.men, HV.men, HV.menL, HV.norm, HV.toC, HV.toCL]; rfl)) ?_
 rintro ⟨i, hi⟩
 have hkl := aM7 i
 refine aB fun K hK => ?_
 refine R0 ?_
 refine aJ (b := decide ((i : Int) < 5)) rfl (fun hb => ?_) (fun hb => ?_)
 ·
  have hlt : i < 5 := by simp at hb; omega
  refine aG ?_
  refine T0 (hK _ _ _ ?_)
  clear hK K
  refine aB fun K hK => ?_
  refine aH ?_
  refine DW [(0, [], []), (1, [], []), (2, [], []), (4, [], []), (6, [], []), (3, [], [0, 1, 4, 6]), (5, [], [0, 1, 6]), (7, [], []), (8, [], []), (9, [], []), (10, [], [])] [0, 1, 0, 4, 0, 28, 0, 124, 255, 511, 1023] ?_
  have F := aI @denilL_Ky (aI @denilL_str @Rt.fold)
  iterate 5 refine WF ?_
  refine aN (g := none) rfl rfl fun K' hK' => T6 ?_
  refine C1 (qY i (by omega)) ?_
  rintro u rfl
  refine AX (hK' _ _ ?_)
  clear hK' K'
  refine aN (g := none) rfl rfl fun K' hK' => T6 ?_
  refine C1 (aG7 i (by omega)) ?_
  rintro u rfl
  refine AX (hK' _ _ ?_)
  clear hK' K'
  refine WF ?_
  refine aN (g := none) rfl rfl fun K' hK' => T6 ?_
  refine C2 (yR (kz i) (bN0 i) (by omega)) ?_
  rintro u rfl
  refine AX (hK' _ _ ?_)
  clear hK' K'
  iterate 2 refine WF ?_
  refine T2 (hK _ _ _ ?_)
  clear hK K
  refine aM (by kernel_rfl) ?_
  refine TQ (bK i) ?_
  refine ⟨⟨i + 1, hlt⟩, aQ (by omega) (by simp [aX, fin_at, finA_at, upd_at, HV.men, HV.menL, HV.norm, HV.toC, HV.toCL]) (by simp [bB, fob_at, upd_at, none0_at, bU, HO.men, HV.men, HV.menL, HV.norm, HV.toC, HV.toCL, zU]; rfl), ?_⟩
  show 5 - (i + 1) < 5 - i
  omega
 refine aS (T3 ?_)
 clear hK K
 refine AX (hK _ _ _ ?_)
 clear hK K
 have hei : i = 5 := by simp at hb; omega
 subst hei
 clear hb
 refine R0 ?_
 refine aD (RT Tryz.results13 ?_)
 exact aC [] (Rt.cv ⟨1, 1099511627776, full.q, kz 5, []⟩) (eD (Rt.denil _)) (by rw [aM8]; rfl)

end Go.Proofs.YtenbfeemmpjdhaaGreatDoor
